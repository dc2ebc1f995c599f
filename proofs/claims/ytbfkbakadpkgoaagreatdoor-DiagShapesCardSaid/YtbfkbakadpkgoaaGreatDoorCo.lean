/-
  The functions compute their models: what the evaluator gives is the model, by the kernel. No condition.
-/
import Derived.Test.YtbfkbakadpkgoaaGreatDoorMo
import Derived.Test.YtbfkbakadpkgoaaGreatDoorShelf
namespace Go.Proofs.YtbfkbakadpkgoaaGreatDoor
open Go.Gk Go.RowKit
noncomputable section
set_option maxRecDepth 100000
def t_coresecmake_New : Tab Tryz.prog := ⟨tes, ses, fes, bes, [], [], fds, [], qes, ges, mes, [], xes⟩
def h_coresecmake_New : Hint := (.s .n (.s .n .n))
def con_coresecmake_New : Con Tryz.prog := ⟨7, [.d (.sl (.int .i64))], [.p 45 P_coresecmake_Deck], ⟨Tryz.f7, Tryz.func7, by kernel_rfl, by kernel_rfl⟩, m_coresecmake_New, fun a r h => mkM_ok (T := t_coresecmake_New) (N := 6) (own := []) (rng := []) (c := (codeOf Tryz.f7)) (h := h_coresecmake_New) (qs := [.tmp 2]) kMix Tryz.func7 (by kernel_rfl) (by kernel_rfl) (by kernel_rfl) (by kernel_rfl) a r (Eq.trans (by kernel_rfl) h)⟩
def t_coresecmake_Mod : Tab Tryz.prog := ⟨tes, ses, fes, bes, [], [], fds, [], qes, ges, mes, [], xes⟩
def h_coresecmake_Mod : Hint := (.s .n (.s .n (.j ⟨[.d 5 (.int .i64)], []⟩ false (.s .n (.c .n .n)) (.s .n .n))))
def con_coresecmake_Mod : Con Tryz.prog := ⟨16, [.d (.int .i64), .d (.int .i64)], [.d (.int .i64)], ⟨Tryz.f16, Tryz.func16, by kernel_rfl, by kernel_rfl⟩, m_coresecmake_Mod, fun a r h => mkM_ok (T := t_coresecmake_Mod) (N := 15) (own := []) (rng := []) (c := (codeOf Tryz.f16)) (h := h_coresecmake_Mod) (qs := [.tmp 4]) kMix Tryz.func16 (by kernel_rfl) (by kernel_rfl) (by kernel_rfl) (by kernel_rfl) a r (Eq.trans (by kernel_rfl) h)⟩
def t_coresecmake_Deck_Next : Tab Tryz.prog := ⟨tes, ses, fes, bes, [con_coresecmake_Mod], [], fds, [], qes, ges, mes, [], xes⟩
def h_coresecmake_Deck_Next : Hint := (.s .n (.s (.s .n (.c (.s .n .n) .n)) (.s .n (.s .n .n))))
def con_coresecmake_Deck_Next : Con Tryz.prog := ⟨17, [.p 45 P_coresecmake_Deck, .d (.int .i64)], [.d (.int .i64)], ⟨Tryz.f17, Tryz.func17, by kernel_rfl, by kernel_rfl⟩, m_coresecmake_Deck_Next, fun a r h => mkM_ok (T := t_coresecmake_Deck_Next) (N := 35) (own := []) (rng := []) (c := (codeOf Tryz.f17)) (h := h_coresecmake_Deck_Next) (qs := [.tmp 4]) kMix Tryz.func17 (by kernel_rfl) (by kernel_rfl) (by kernel_rfl) (by kernel_rfl) a r (Eq.trans (by kernel_rfl) h)⟩
def t_coresecmake_Deck_Number : Tab Tryz.prog := ⟨tes, ses, fes, bes, [con_coresecmake_Deck_Next], [], fds, [], qes, ges, mes, [], xes⟩
def h_coresecmake_Deck_Number : Hint := (.s .n (.s (.s .n (.b (.s .n (.c (.s .n .n) (.s .n (.c (.s .n .n) .n)))))) (.s .n .n)))
def con_coresecmake_Deck_Number : Con Tryz.prog := ⟨18, [.p 45 P_coresecmake_Deck], [.d (.int .u64)], ⟨Tryz.f18, Tryz.func18, by kernel_rfl, by kernel_rfl⟩, m_coresecmake_Deck_Number, fun a r h => mkM_ok (T := t_coresecmake_Deck_Number) (N := 20) (own := []) (rng := []) (c := (codeOf Tryz.f18)) (h := h_coresecmake_Deck_Number) (qs := [.tmp 2]) kMix Tryz.func18 (by kernel_rfl) (by kernel_rfl) (by kernel_rfl) (by kernel_rfl) a r (Eq.trans (by kernel_rfl) h)⟩
def t_coresecmake_Deck_Bytes : Tab Tryz.prog := ⟨tes, ses, fes, bes, [con_coresecmake_Deck_Next], [], fds, [], qes, ges, mes, [], xes⟩
def h_coresecmake_Deck_Bytes : Hint := (.s .n (.s .n (.s (.s .n (.b (.l .g ⟨[.o 5 5 (.int .u8), .d 6 (.int .i64), .b 0 45 P_coresecmake_Deck], [0]⟩ (.s (.s .n (.c .n .n)) (.s (.b .n) .n))))) (.s .n .n))))
def con_coresecmake_Deck_Bytes : Con Tryz.prog := ⟨20, [.p 45 P_coresecmake_Deck, .d (.int .i64)], [.d (.sl (.int .u8))], ⟨Tryz.f20, Tryz.func20, by kernel_rfl, by kernel_rfl⟩, m_coresecmake_Deck_Bytes, fun a r h => mkM_ok (T := t_coresecmake_Deck_Bytes) (N := 22) (own := [20]) (rng := []) (c := (codeOf Tryz.f20)) (h := h_coresecmake_Deck_Bytes) (qs := [.tmp 4]) kMix Tryz.func20 (by kernel_rfl) (by kernel_rfl) (by kernel_rfl) (by kernel_rfl) a r (Eq.trans (by kernel_rfl) h)⟩
def t_coresecref01_Bytes : Tab Tryz.prog := ⟨tes, ses, fes, bes, [], [], fds, [], qes, ges, mes, [], xes⟩
def h_coresecref01_Bytes : Hint := (.s .n (.s .n .n))
def con_coresecref01_Bytes : Con Tryz.prog := ⟨19, [.d (.sl (.int .u8))], [.d .tree], ⟨Tryz.f19, Tryz.func19, by kernel_rfl, by kernel_rfl⟩, m_coresecref01_Bytes, fun a r h => mkM_ok (T := t_coresecref01_Bytes) (N := 6) (own := []) (rng := []) (c := (codeOf Tryz.f19)) (h := h_coresecref01_Bytes) (qs := [.cell 2 26]) kMix Tryz.func19 (by kernel_rfl) (by kernel_rfl) (by kernel_rfl) (by kernel_rfl) a r (Eq.trans (by kernel_rfl) h)⟩
def t_coresecmake_Deck_Text : Tab Tryz.prog := ⟨tes, ses, fes, bes, [con_coresecmake_Deck_Next], [], fds, [], qes, ges, mes, [], xes⟩
def h_coresecmake_Deck_Text : Hint := (.s .n (.s .n (.s (.s .n (.b (.l .g ⟨[.d 5 .str, .d 6 (.int .i64), .b 0 45 P_coresecmake_Deck], [0]⟩ (.s (.s .n (.c .n .n)) (.s (.b .n) .n))))) (.s .n .n))))
def con_coresecmake_Deck_Text : Con Tryz.prog := ⟨22, [.p 45 P_coresecmake_Deck, .d (.int .i64)], [.d .str], ⟨Tryz.f22, Tryz.func22, by kernel_rfl, by kernel_rfl⟩, m_coresecmake_Deck_Text, fun a r h => mkM_ok (T := t_coresecmake_Deck_Text) (N := 23) (own := []) (rng := []) (c := (codeOf Tryz.f22)) (h := h_coresecmake_Deck_Text) (qs := [.tmp 4]) kMix Tryz.func22 (by kernel_rfl) (by kernel_rfl) (by kernel_rfl) (by kernel_rfl) a r (Eq.trans (by kernel_rfl) h)⟩
def t_coresecref01_Text : Tab Tryz.prog := ⟨tes, ses, fes, bes, [], [], fds, [], qes, ges, mes, [], xes⟩
def h_coresecref01_Text : Hint := (.s .n (.s .n .n))
def con_coresecref01_Text : Con Tryz.prog := ⟨21, [.d .str], [.d .tree], ⟨Tryz.f21, Tryz.func21, by kernel_rfl, by kernel_rfl⟩, m_coresecref01_Text, fun a r h => mkM_ok (T := t_coresecref01_Text) (N := 6) (own := []) (rng := []) (c := (codeOf Tryz.f21)) (h := h_coresecref01_Text) (qs := [.cell 2 26]) kMix Tryz.func21 (by kernel_rfl) (by kernel_rfl) (by kernel_rfl) (by kernel_rfl) a r (Eq.trans (by kernel_rfl) h)⟩
def t_unicode_utf8_word_byte : Tab Tryz.prog := ⟨tes, ses, fes, bes, [], [], fds, [], qes, ges, mes, [], xes⟩
def h_unicode_utf8_word_byte : Hint := (.s .n (.s (.c (.s .n .n) .n) (.s .n .n)))
def con_unicode_utf8_word_byte : Con Tryz.prog := ⟨85, [.d (.sl (.int .u8))], [.d (.int .u64)], ⟨Tryz.f85, Tryz.func85, by kernel_rfl, by kernel_rfl⟩, m_unicode_utf8_word_byte, fun a r h => mkM_ok (T := t_unicode_utf8_word_byte) (N := 71) (own := []) (rng := []) (c := (codeOf Tryz.f85)) (h := h_unicode_utf8_word_byte) (qs := [.tmp 2]) kMix Tryz.func85 (by kernel_rfl) (by kernel_rfl) (by kernel_rfl) (by kernel_rfl) a r (Eq.trans (by kernel_rfl) h)⟩
def t_unicode_utf8_Valid : Tab Tryz.prog := ⟨tes, ses, fes, bes, [con_unicode_utf8_word_byte], [], fds, [], qes, ges, mes, [], xes⟩
def h_unicode_utf8_Valid : Hint := (.s .n (.s .n (.j ⟨[], []⟩ true (.b (.l .g ⟨[.d 0 (.sl (.int .u8))], []⟩ (.s (.s .n (.c .n .n)) (.b (.s .n (.s (.s .n (.c (.s .n (.s (.j ⟨[.d 31 .bool], [0]⟩ false .n (.c (.s .n (.j ⟨[.d 46 .bool], [0]⟩ false .n (.c (.s .n (.b (.l .g ⟨[.d 0 (.sl (.int .u8))], []⟩ (.s (.j ⟨[.d 69 .bool], [0]⟩ false .n (.c .n .n)) (.b .n))))) .n))) .n)) .n)) .n)) (.s .n (.s .n (.s .n (.s .n (.b (.s .n (.c (.s (.j ⟨[.d 103 .bool], [0]⟩ false .n (.c (.s .n .n) .n)) .n) (.s .n (.c (.s (.j ⟨[.d 138 .bool], [0]⟩ false .n (.c (.s .n .n) .n)) .n) (.s .n (.c (.s (.j ⟨[.d 185 .bool], [0]⟩ false .n (.c (.s .n .n) .n)) .n) (.s .n .n)))))))))))))))))) (.s .n .n))))
def con_unicode_utf8_Valid : Con Tryz.prog := ⟨66, [.d (.sl (.int .u8))], [.d .bool], ⟨Tryz.f66, Tryz.func66, by kernel_rfl, by kernel_rfl⟩, m_unicode_utf8_Valid, fun a r h => mkM_ok (T := t_unicode_utf8_Valid) (N := 188) (own := []) (rng := []) (c := (codeOf Tryz.f66)) (h := h_unicode_utf8_Valid) (qs := [.tmp 2]) kMix Tryz.func66 (by kernel_rfl) (by kernel_rfl) (by kernel_rfl) (by kernel_rfl) a r (Eq.trans (by kernel_rfl) h)⟩
def t_coresecref01_IsNaN : Tab Tryz.prog := ⟨tes, ses, fes, bes, [], [], fds, [], qes, ges, mes, [], xes⟩
def h_coresecref01_IsNaN : Hint := (.s .n (.j ⟨[.d 2 .bool], []⟩ false .n .n))
def con_coresecref01_IsNaN : Con Tryz.prog := ⟨34, [.d (.int .u64)], [.d .bool], ⟨Tryz.f34, Tryz.func34, by kernel_rfl, by kernel_rfl⟩, m_coresecref01_IsNaN, fun a r h => mkM_ok (T := t_coresecref01_IsNaN) (N := 12) (own := []) (rng := []) (c := (codeOf Tryz.f34)) (h := h_coresecref01_IsNaN) (qs := [.tmp 2]) kMix Tryz.func34 (by kernel_rfl) (by kernel_rfl) (by kernel_rfl) (by kernel_rfl) a r (Eq.trans (by kernel_rfl) h)⟩
def t_coresecref01_Head : Tab Tryz.prog := ⟨tes, ses, fes, bes, [], [], fds, [], qes, ges, mes, [], xes⟩
def h_coresecref01_Head : Hint := (.s .n (.s .n (.s .n (.j ⟨[.o 5 5 (.int .u8), .d 6 (.int .i64)], [1]⟩ true (.b (.s .n (.c (.s .n .n) (.s .n (.c .n (.s .n (.c .n (.s .n (.c .n .n))))))))) (.s (.s .n (.b (.l .g ⟨[.o 5 5 (.int .u8), .d 7 (.int .i64)], [1]⟩ (.s (.s .n (.c .n .n)) (.s (.b .n) .n))))) (.s .n .n))))))
def con_coresecref01_Head : Con Tryz.prog := ⟨60, [.d (.int .i64), .d (.int .u64)], [.d (.sl (.int .u8))], ⟨Tryz.f60, Tryz.func60, by kernel_rfl, by kernel_rfl⟩, m_coresecref01_Head, fun a r h => mkM_ok (T := t_coresecref01_Head) (N := 66) (own := [12, 64]) (rng := []) (c := (codeOf Tryz.f60)) (h := h_coresecref01_Head) (qs := [.tmp 4]) kMix Tryz.func60 (by kernel_rfl) (by kernel_rfl) (by kernel_rfl) (by kernel_rfl) a r (Eq.trans (by kernel_rfl) h)⟩
def t_coresecref01_Head_o : Tab Tryz.prog := ⟨tes, ses, fes, bes, [], [], fds, [], qes, ges, mes, [], xes⟩
def h_coresecref01_Head_o : Hint := (.s .n (.s .n (.s .n (.j ⟨[.o 5 5 (.int .u8), .d 6 (.int .i64)], [1]⟩ true (.b (.s .n (.c (.s .n .n) (.s .n (.c .n (.s .n (.c .n (.s .n (.c .n .n))))))))) (.s (.s .n (.b (.l .g ⟨[.o 5 5 (.int .u8), .d 7 (.int .i64)], [1]⟩ (.s (.s .n (.c .n .n)) (.s (.b .n) .n))))) (.s .n .n))))))
def con_coresecref01_Head_o : Con Tryz.prog := ⟨60, [.d (.int .i64), .d (.int .u64)], [.o 5 (.int .u8)], ⟨Tryz.f60, Tryz.func60, by kernel_rfl, by kernel_rfl⟩, m_coresecref01_Head_o, fun a r h => mkM_ok (T := t_coresecref01_Head_o) (N := 66) (own := [12, 28, 64]) (rng := []) (c := (codeOf Tryz.f60)) (h := h_coresecref01_Head_o) (qs := [.tmp 4]) kMix Tryz.func60 (by kernel_rfl) (by kernel_rfl) (by kernel_rfl) (by kernel_rfl) a r (Eq.trans (by kernel_rfl) h)⟩
def t_coresecref01_Narrow : Tab Tryz.prog := ⟨tes, ses, fes, bes, [], [], fds, [], qes, ges, mes, [], xes⟩
def h_coresecref01_Narrow : Hint := (.s .n (.s .n (.s .n (.s (.b (.s .n (.c (.s .n .n) (.s .n (.c (.s .n .n) .n))))) (.s .n (.s (.b (.s .n (.c (.s .n .n) (.s .n (.c (.s .n .n) .n))))) (.s .n (.s (.s .n (.c (.s .n .n) .n)) (.s .n .n)))))))))
def con_coresecref01_Narrow : Con Tryz.prog := ⟨74, [.d (.int .u64), .d (.int .i64), .d (.int .i64)], [.d (.int .u64), .d .bool], ⟨Tryz.f74, Tryz.func74, by kernel_rfl, by kernel_rfl⟩, m_coresecref01_Narrow, fun a r h => mkM_ok (T := t_coresecref01_Narrow) (N := 109) (own := []) (rng := []) (c := (codeOf Tryz.f74)) (h := h_coresecref01_Narrow) (qs := [.tmp 6, .tmp 7]) kMix Tryz.func74 (by kernel_rfl) (by kernel_rfl) (by kernel_rfl) (by kernel_rfl) a r (Eq.trans (by kernel_rfl) h)⟩
def t_coresecref01_float : Tab Tryz.prog := ⟨tes, ses, fes, bes, [con_coresecref01_IsNaN, con_coresecref01_Narrow], [], fds, [], qes, ges, mes, [], xes⟩
def h_coresecref01_float : Hint := (.s .n (.s (.s .n (.c (.s .n .n) .n)) (.s (.s .n (.s .n (.c (.s .n .n) .n))) (.s (.s .n (.s .n (.c (.s .n .n) .n))) (.s .n (.s (.s .n (.b (.l .g ⟨[.o 7 5 (.int .u8), .d 8 (.int .i64)], [0]⟩ (.s (.s .n (.c .n .n)) (.s (.b .n) .n))))) (.s .n .n)))))))
def con_coresecref01_float : Con Tryz.prog := ⟨61, [.d (.int .u64)], [.d (.sl (.int .u8))], ⟨Tryz.f61, Tryz.func61, by kernel_rfl, by kernel_rfl⟩, m_coresecref01_float, fun a r h => mkM_ok (T := t_coresecref01_float) (N := 57) (own := [42, 55]) (rng := []) (c := (codeOf Tryz.f61)) (h := h_coresecref01_float) (qs := [.tmp 2]) kMix Tryz.func61 (by kernel_rfl) (by kernel_rfl) (by kernel_rfl) (by kernel_rfl) a r (Eq.trans (by kernel_rfl) h)⟩
def cz_coresecref01_Raw (mf : cur [.d .tree] (Option (tupR (([.d (.sl (.int .u8))] : List RK) ++ outs [.d .tree])))) (okf : ∀ a r, app1 [.d .tree] mf a = some r → OKc Tryz.prog 35 [.d .tree] [.d (.sl (.int .u8))] a (toHL _ r)) : Con Tryz.prog := ⟨35, [.d .tree], [.d (.sl (.int .u8))], ⟨Tryz.f35, Tryz.func35, by kernel_rfl, by kernel_rfl⟩, mf, okf⟩
def t_coresecref01_Raw (mf : cur [.d .tree] (Option (tupR (([.d (.sl (.int .u8))] : List RK) ++ outs [.d .tree])))) (okf : ∀ a r, app1 [.d .tree] mf a = some r → OKc Tryz.prog 35 [.d .tree] [.d (.sl (.int .u8))] a (toHL _ r)) : Tab Tryz.prog := ⟨tes, ses, fes, bes, [con_coresecref01_Head_o, con_coresecref01_float, cz_coresecref01_Raw mf okf], [], fds, [], qes, ges, mes, [], xes⟩
def h_coresecref01_Raw : Hint := (.s .n (.s .n (.j ⟨[.o 3 5 (.int .u8)], [1]⟩ true (.s .n (.b (.j ⟨[.d 11 .bool], [1, 7]⟩ false (.s .n (.c .n .n)) (.c (.s .n .n) (.j ⟨[.d 19 .bool], [1, 7]⟩ false (.s .n (.c .n .n)) (.c (.s .n .n) (.s .n (.c .n (.s .n (.c .n (.s .n (.c .n (.s .n (.c (.s (.s .n (.c (.s .n .n) .n)) (.s .n .n)) (.s .n .n))))))))))))))) (.s (.s .n (.b (.l (.a 69 68) ⟨[.o 3 5 (.int .u8)], [67, 68]⟩ (.s .n (.s (.c .n .n) (.s (.b (.s .n .n)) .n)))))) (.s .n .n)))))
theorem ob_coresecref01_Raw (mf : cur [.d .tree] (Option (tupR (([.d (.sl (.int .u8))] : List RK) ++ outs [.d .tree])))) (okf : ∀ a r, app1 [.d .tree] mf a = some r → OKc Tryz.prog 35 [.d .tree] [.d (.sl (.int .u8))] a (toHL _ r)) : ∀ a r, app1 [.d .tree] (b_coresecref01_Raw mf) a = some r → OKc Tryz.prog 35 [.d .tree] [.d (.sl (.int .u8))] a (toHL _ r) := fun a r h => mkM_ok (T := t_coresecref01_Raw mf okf) (N := 79) (own := [76]) (rng := [68]) (c := (codeOf Tryz.f35)) (h := h_coresecref01_Raw) (qs := [.tmp 2]) (ps := [.d .tree]) (rs := [.d (.sl (.int .u8))]) kMix Tryz.func35 (by kernel_rfl) (by kernel_rfl) (by kernel_rfl) (by kernel_rfl) a r (Eq.trans (by kernel_rfl) h)
theorem on_coresecref01_Raw : ∀ (n : Nat) a r, app1 [.d .tree] (n_coresecref01_Raw n) a = some r → OKc Tryz.prog 35 [.d .tree] [.d (.sl (.int .u8))] a (toHL _ r)
 | 0, a, r, h => by cases (show (none : Option _) = some r from h)
 | n + 1, a, r, h => ob_coresecref01_Raw (n_coresecref01_Raw n) (on_coresecref01_Raw n) a r h
def con_coresecref01_Raw : Con Tryz.prog := ⟨35, [.d .tree], [.d (.sl (.int .u8))], ⟨Tryz.f35, Tryz.func35, by kernel_rfl, by kernel_rfl⟩, m_coresecref01_Raw, fun a r h => on_coresecref01_Raw 40 a r h⟩
def t_coresecref01_Compare : Tab Tryz.prog := ⟨tes, ses, fes, bes, [], [], fds, [], qes, ges, mes, [], xes⟩
def h_coresecref01_Compare : Hint := (.s .n (.s (.s .n (.b (.l .g ⟨[.d 5 (.int .i64)], [0, 1]⟩ (.s (.j ⟨[.d 15 .bool], [0, 1, 5]⟩ false .n (.c .n .n)) (.s (.b (.s .n (.c (.s (.s .n (.c (.s .n .n) .n)) (.s .n .n)) .n))) .n))))) (.s (.b (.s .n (.c (.s .n .n) (.s .n (.c (.s .n .n) .n))))) (.s .n .n))))
def con_coresecref01_Compare : Con Tryz.prog := ⟨32, [.d (.sl (.int .u8)), .d (.sl (.int .u8))], [.d (.int .i64)], ⟨Tryz.f32, Tryz.func32, by kernel_rfl, by kernel_rfl⟩, m_coresecref01_Compare, fun a r h => mkM_ok (T := t_coresecref01_Compare) (N := 48) (own := []) (rng := []) (c := (codeOf Tryz.f32)) (h := h_coresecref01_Compare) (qs := [.tmp 4]) kMix Tryz.func32 (by kernel_rfl) (by kernel_rfl) (by kernel_rfl) (by kernel_rfl) a r (Eq.trans (by kernel_rfl) h)⟩
def cz_coresecref01_left (mf : cur [.d .tree, .d (.int .i64), .d (.int .i64)] (Option (tupR (([.d (.int .i64)] : List RK) ++ outs [.d .tree, .d (.int .i64), .d (.int .i64)])))) (okf : ∀ a r, app1 [.d .tree, .d (.int .i64), .d (.int .i64)] mf a = some r → OKc Tryz.prog 41 [.d .tree, .d (.int .i64), .d (.int .i64)] [.d (.int .i64)] a (toHL _ r)) : Con Tryz.prog := ⟨41, [.d .tree, .d (.int .i64), .d (.int .i64)], [.d (.int .i64)], ⟨Tryz.f41, Tryz.func41, by kernel_rfl, by kernel_rfl⟩, mf, okf⟩
def t_coresecref01_left (mf : cur [.d .tree, .d (.int .i64), .d (.int .i64)] (Option (tupR (([.d (.int .i64)] : List RK) ++ outs [.d .tree, .d (.int .i64), .d (.int .i64)])))) (okf : ∀ a r, app1 [.d .tree, .d (.int .i64), .d (.int .i64)] mf a = some r → OKc Tryz.prog 41 [.d .tree, .d (.int .i64), .d (.int .i64)] [.d (.int .i64)] a (toHL _ r)) : Tab Tryz.prog := ⟨tes, ses, fes, bes, [con_unicode_utf8_Valid, con_coresecref01_IsNaN, cz_coresecref01_left mf okf, con_coresecref01_Raw, con_coresecref01_Compare], [], fds, [], qes, ges, mes, [], xes⟩
def h_coresecref01_left : Hint := (.s .n (.s (.s .n (.c (.s .n .n) .n)) (.s .n (.j ⟨[.d 7 .bool], [1, 2, 3]⟩ false .n (.j ⟨[.d 8 .bool], [1, 2, 3, 7]⟩ false .n (.s (.b (.j ⟨[.d 37 .bool], [1, 2, 3, 7]⟩ false (.j ⟨[.d 37 .bool], [1, 2, 3, 7, 8]⟩ false .n (.c .n (.j ⟨[.d 37 .bool], [1, 2, 3, 7, 8]⟩ false .n (.c .n (.j ⟨[.d 37 .bool], [1, 2, 3, 7, 8]⟩ false .n (.c .n .n)))))) (.c (.s .n .n) (.j ⟨[.d 78 .bool], [1, 2, 3, 7]⟩ false (.s .n (.c .n .n)) (.c (.s .n .n) (.j ⟨[.d 92 .bool], [1, 2, 3, 7]⟩ false (.j ⟨[.d 92 .bool], [1, 2, 3, 7]⟩ false .n (.c .n .n)) (.c (.s .n .n) (.j ⟨[.d 124 .bool], [1, 2, 3]⟩ false (.j ⟨[.d 124 .bool], [1, 2, 3]⟩ false .n (.c .n (.j ⟨[.d 124 .bool], [1, 2, 3]⟩ false .n (.c .n (.j ⟨[.d 124 .bool], [1, 2, 3]⟩ false .n (.c .n .n)))))) (.c (.s .n .n) .n))))))))) (.j ⟨[.d 1 (.int .i64)], [3]⟩ true (.s .n (.b (.l (.a 157 156) ⟨[.d 1 (.int .i64)], [2, 3, 155, 156]⟩ (.s .n (.s (.c .n .n) (.s (.b (.s .n (.s .n (.s .n (.c (.s .n .n) .n))))) .n)))))) (.s (.s .n (.b (.l .g ⟨[.d 11 (.int .i64)], [1, 3]⟩ (.s (.j ⟨[.d 178 .bool], [1, 3, 11]⟩ false .n (.c .n .n)) (.s (.b (.s .n (.c (.s .n .n) .n))) .n))))) (.s .n .n)))))))))
theorem ob_coresecref01_left (mf : cur [.d .tree, .d (.int .i64), .d (.int .i64)] (Option (tupR (([.d (.int .i64)] : List RK) ++ outs [.d .tree, .d (.int .i64), .d (.int .i64)])))) (okf : ∀ a r, app1 [.d .tree, .d (.int .i64), .d (.int .i64)] mf a = some r → OKc Tryz.prog 41 [.d .tree, .d (.int .i64), .d (.int .i64)] [.d (.int .i64)] a (toHL _ r)) : ∀ a r, app1 [.d .tree, .d (.int .i64), .d (.int .i64)] (b_coresecref01_left mf) a = some r → OKc Tryz.prog 41 [.d .tree, .d (.int .i64), .d (.int .i64)] [.d (.int .i64)] a (toHL _ r) := fun a r h => mkM_ok (T := t_coresecref01_left mf okf) (N := 197) (own := []) (rng := [156]) (c := (codeOf Tryz.f41)) (h := h_coresecref01_left) (qs := [.tmp 6]) (ps := [.d .tree, .d (.int .i64), .d (.int .i64)]) (rs := [.d (.int .i64)]) kMix Tryz.func41 (by kernel_rfl) (by kernel_rfl) (by kernel_rfl) (by kernel_rfl) a r (Eq.trans (by kernel_rfl) h)
theorem on_coresecref01_left : ∀ (n : Nat) a r, app1 [.d .tree, .d (.int .i64), .d (.int .i64)] (n_coresecref01_left n) a = some r → OKc Tryz.prog 41 [.d .tree, .d (.int .i64), .d (.int .i64)] [.d (.int .i64)] a (toHL _ r)
 | 0, a, r, h => by cases (show (none : Option _) = some r from h)
 | n + 1, a, r, h => ob_coresecref01_left (n_coresecref01_left n) (on_coresecref01_left n) a r h
def con_coresecref01_left : Con Tryz.prog := ⟨41, [.d .tree, .d (.int .i64), .d (.int .i64)], [.d (.int .i64)], ⟨Tryz.f41, Tryz.func41, by kernel_rfl, by kernel_rfl⟩, m_coresecref01_left, fun a r h => on_coresecref01_left 40 a r h⟩
def t_coresecref01_Valid : Tab Tryz.prog := ⟨tes, ses, fes, bes, [con_coresecref01_left, con_coresecref01_Raw], [], fds, [], qes, ges, mes, [], xes⟩
def h_coresecref01_Valid : Hint := (.s .n (.j ⟨[.d 2 .bool], []⟩ false .n .n))
def con_coresecref01_Valid : Con Tryz.prog := ⟨28, [.d .tree], [.d .bool], ⟨Tryz.f28, Tryz.func28, by kernel_rfl, by kernel_rfl⟩, m_coresecref01_Valid, fun a r h => mkM_ok (T := t_coresecref01_Valid) (N := 12) (own := []) (rng := []) (c := (codeOf Tryz.f28)) (h := h_coresecref01_Valid) (qs := [.tmp 2]) kMix Tryz.func28 (by kernel_rfl) (by kernel_rfl) (by kernel_rfl) (by kernel_rfl) a r (Eq.trans (by kernel_rfl) h)⟩
def t_coresecmake_whole : Tab Tryz.prog := ⟨tes, ses, fes, bes, [con_coresecref01_Valid], [], fds, [], qes, ges, mes, [], xes⟩
def h_coresecmake_whole : Hint := (.s .n (.s (.s .n (.c (.s .n .n) .n)) (.s .n .n)))
def con_coresecmake_whole : Con Tryz.prog := ⟨23, [.d .tree], [.d .tree], ⟨Tryz.f23, Tryz.func23, by kernel_rfl, by kernel_rfl⟩, m_coresecmake_whole, fun a r h => mkM_ok (T := t_coresecmake_whole) (N := 8) (own := []) (rng := []) (c := (codeOf Tryz.f23)) (h := h_coresecmake_whole) (qs := [.cell 2 26]) kMix Tryz.func23 (by kernel_rfl) (by kernel_rfl) (by kernel_rfl) (by kernel_rfl) a r (Eq.trans (by kernel_rfl) h)⟩
def t_coresecref01_Widen : Tab Tryz.prog := ⟨tes, ses, fes, bes, [], [], fds, [], qes, ges, mes, [], xes⟩
def h_coresecref01_Widen : Hint := (.s .n (.s .n (.s .n (.s (.b (.s .n (.c (.s .n .n) (.j ⟨[.d 57 .bool], [2, 7, 8, 9, 11]⟩ false .n (.c (.s .n .n) (.s .n (.c (.s .n (.j ⟨[.d 12 (.int .i64)], [2, 7, 9, 11]⟩ false (.b (.l .g ⟨[.d 12 (.int .i64)], [2, 7, 9, 11]⟩ (.s (.s .n (.c .n .n)) (.b .n)))) (.s .n .n))) .n))))))) (.s .n .n)))))
def con_coresecref01_Widen : Con Tryz.prog := ⟨33, [.d (.int .u64), .d (.int .i64), .d (.int .i64)], [.d (.int .u64)], ⟨Tryz.f33, Tryz.func33, by kernel_rfl, by kernel_rfl⟩, m_coresecref01_Widen, fun a r h => mkM_ok (T := t_coresecref01_Widen) (N := 108) (own := []) (rng := []) (c := (codeOf Tryz.f33)) (h := h_coresecref01_Widen) (qs := [.tmp 6]) kMix Tryz.func33 (by kernel_rfl) (by kernel_rfl) (by kernel_rfl) (by kernel_rfl) a r (Eq.trans (by kernel_rfl) h)⟩
def t_coresecmake_Deck_Float : Tab Tryz.prog := ⟨tes, ses, fes, bes, [con_coresecmake_Deck_Next, con_coresecref01_Widen, con_coresecref01_IsNaN], [], fds, [], qes, ges, mes, [], xes⟩
def h_coresecmake_Deck_Float : Hint := (.s .n (.s .n (.s (.s .n (.b (.s .n (.c (.s .n .n) (.s .n (.c (.s .n .n) (.s .n (.c (.s .n .n) .n)))))))) (.s .n (.s (.s .n (.c (.s .n .n) .n)) (.s .n .n))))))
def con_coresecmake_Deck_Float : Con Tryz.prog := ⟨24, [.p 45 P_coresecmake_Deck], [.d (.int .u64)], ⟨Tryz.f24, Tryz.func24, by kernel_rfl, by kernel_rfl⟩, m_coresecmake_Deck_Float, fun a r h => mkM_ok (T := t_coresecmake_Deck_Float) (N := 41) (own := []) (rng := []) (c := (codeOf Tryz.f24)) (h := h_coresecmake_Deck_Float) (qs := [.tmp 2]) kMix Tryz.func24 (by kernel_rfl) (by kernel_rfl) (by kernel_rfl) (by kernel_rfl) a r (Eq.trans (by kernel_rfl) h)⟩
def cz_coresecref01_Copy (mf : cur [.d .tree] (Option (tupR (([.d .tree] : List RK) ++ outs [.d .tree])))) (okf : ∀ a r, app1 [.d .tree] mf a = some r → OKc Tryz.prog 36 [.d .tree] [.d .tree] a (toHL _ r)) : Con Tryz.prog := ⟨36, [.d .tree], [.d .tree], ⟨Tryz.f36, Tryz.func36, by kernel_rfl, by kernel_rfl⟩, mf, okf⟩
def t_coresecref01_Copy (mf : cur [.d .tree] (Option (tupR (([.d .tree] : List RK) ++ outs [.d .tree])))) (okf : ∀ a r, app1 [.d .tree] mf a = some r → OKc Tryz.prog 36 [.d .tree] [.d .tree] a (toHL _ r)) : Tab Tryz.prog := ⟨tes, ses, fes, bes, [cz_coresecref01_Copy mf okf], [], fds, [], qes, ges, mes, [], xes⟩
def h_coresecref01_Copy : Hint := (.s .n (.s .n (.s .n (.s (.s .n (.b (.l (.a 18 17) ⟨[.o 4 26 .tree], [2, 3, 16, 17]⟩ (.s .n (.s (.c .n .n) (.s (.b (.s .n .n)) .n)))))) (.s .n (.s .n .n))))))
theorem ob_coresecref01_Copy (mf : cur [.d .tree] (Option (tupR (([.d .tree] : List RK) ++ outs [.d .tree])))) (okf : ∀ a r, app1 [.d .tree] mf a = some r → OKc Tryz.prog 36 [.d .tree] [.d .tree] a (toHL _ r)) : ∀ a r, app1 [.d .tree] (b_coresecref01_Copy mf) a = some r → OKc Tryz.prog 36 [.d .tree] [.d .tree] a (toHL _ r) := fun a r h => mkM_ok (T := t_coresecref01_Copy mf okf) (N := 31) (own := [26]) (rng := [17]) (c := (codeOf Tryz.f36)) (h := h_coresecref01_Copy) (qs := [.cell 2 26]) (ps := [.d .tree]) (rs := [.d .tree]) kMix Tryz.func36 (by kernel_rfl) (by kernel_rfl) (by kernel_rfl) (by kernel_rfl) a r (Eq.trans (by kernel_rfl) h)
theorem on_coresecref01_Copy : ∀ (n : Nat) a r, app1 [.d .tree] (n_coresecref01_Copy n) a = some r → OKc Tryz.prog 36 [.d .tree] [.d .tree] a (toHL _ r)
 | 0, a, r, h => by cases (show (none : Option _) = some r from h)
 | n + 1, a, r, h => ob_coresecref01_Copy (n_coresecref01_Copy n) (on_coresecref01_Copy n) a r h
def con_coresecref01_Copy : Con Tryz.prog := ⟨36, [.d .tree], [.d .tree], ⟨Tryz.f36, Tryz.func36, by kernel_rfl, by kernel_rfl⟩, m_coresecref01_Copy, fun a r h => on_coresecref01_Copy 40 a r h⟩
def t_coresecref01_Build : Tab Tryz.prog := ⟨tes, ses, fes, bes, [con_coresecref01_Valid, con_coresecref01_Raw, con_coresecref01_Compare, con_coresecref01_Copy], [], fds, [], qes, ges, mes, [], xes⟩
def h_coresecref01_Build : Hint := (.s .n (.s (.s .n (.c (.s .n .n) .n)) (.j ⟨[.b 2 26 .tree], [0, 2]⟩ true (.s .n (.b (.l (.a 18 17) ⟨[.b 2 26 .tree], [0, 2, 16, 17]⟩ (.s .n (.s (.c .n .n) (.s (.b (.s .n (.s .n (.c (.s .n .n) .n)))) .n)))))) (.s .n (.s .n (.j ⟨[.d 6 (.sl .tree), .d 7 .bool], [2]⟩ false (.s .n (.b (.l .g ⟨[.d 6 (.sl .tree), .d 7 .bool, .d 8 (.int .i64)], [0, 2]⟩ (.s (.s .n (.c .n .n)) (.j ⟨[.d 6 (.sl .tree), .d 7 .bool], [0, 2, 8]⟩ false (.b (.s .n (.j ⟨[.d 9 (.int .i64)], [0, 2, 6, 7, 8]⟩ false (.b (.l .g ⟨[.d 9 (.int .i64)], [0, 2, 6, 7, 8]⟩ (.s (.j ⟨[.d 51 .bool], [0, 2, 6, 7, 8, 9]⟩ false .n (.c .n .n)) (.b .n)))) (.j ⟨[.d 7 .bool], [0, 2, 6, 8, 9]⟩ false .n .n)))) .n))))) (.s (.s .n (.c (.s .n .n) .n)) (.s .n (.s (.s .n (.c (.s .n .n) .n)) (.s .n .n))))))))))
def con_coresecref01_Build : Con Tryz.prog := ⟨25, [.d (.sl .tree)], [.d .tree, .d (.int .i64)], ⟨Tryz.f25, Tryz.func25, by kernel_rfl, by kernel_rfl⟩, m_coresecref01_Build, fun a r h => mkM_ok (T := t_coresecref01_Build) (N := 103) (own := [77, 88]) (rng := [17]) (c := (codeOf Tryz.f25)) (h := h_coresecref01_Build) (qs := [.cell 2 26, .tmp 3]) kMix Tryz.func25 (by kernel_rfl) (by kernel_rfl) (by kernel_rfl) (by kernel_rfl) a r (Eq.trans (by kernel_rfl) h)⟩
def cz_coresecmake_Deck_Item (mf : cur [.p 45 P_coresecmake_Deck, .d (.int .i64)] (Option (tupR (([.d .tree] : List RK) ++ outs [.p 45 P_coresecmake_Deck, .d (.int .i64)])))) (okf : ∀ a r, app1 [.p 45 P_coresecmake_Deck, .d (.int .i64)] mf a = some r → OKc Tryz.prog 8 [.p 45 P_coresecmake_Deck, .d (.int .i64)] [.d .tree] a (toHL _ r)) : Con Tryz.prog := ⟨8, [.p 45 P_coresecmake_Deck, .d (.int .i64)], [.d .tree], ⟨Tryz.f8, Tryz.func8, by kernel_rfl, by kernel_rfl⟩, mf, okf⟩
def t_coresecmake_Deck_Item (mf : cur [.p 45 P_coresecmake_Deck, .d (.int .i64)] (Option (tupR (([.d .tree] : List RK) ++ outs [.p 45 P_coresecmake_Deck, .d (.int .i64)])))) (okf : ∀ a r, app1 [.p 45 P_coresecmake_Deck, .d (.int .i64)] mf a = some r → OKc Tryz.prog 8 [.p 45 P_coresecmake_Deck, .d (.int .i64)] [.d .tree] a (toHL _ r)) : Tab Tryz.prog := ⟨tes, ses, fes, bes, [con_coresecmake_Deck_Next, con_coresecmake_Deck_Number, con_coresecmake_Deck_Bytes, con_coresecref01_Bytes, con_coresecmake_Deck_Text, con_coresecref01_Text, cz_coresecmake_Deck_Item mf okf, con_coresecmake_whole, con_coresecmake_Deck_Float, con_coresecref01_Build], [], fds, [], qes, ges, mes, [], xes⟩
def h_coresecmake_Deck_Item : Hint := (.s .n (.s .n (.j ⟨[.d 5 (.int .i64)], [0, 1, 4]⟩ false (.j ⟨[.d 21 .bool], [0, 1, 4, 5]⟩ false .n (.c .n .n)) (.s .n (.s (.s .n (.b (.j ⟨[.d 23 .bool], [0, 1, 4, 5, 6, 22]⟩ false (.s .n (.c .n .n)) (.c (.s .n .n) (.s .n (.c (.s .n .n) (.s .n (.c (.s .n .n) (.s .n (.c (.s .n .n) (.s .n (.c (.s .n .n) (.s .n (.c (.s .n .n) .n)))))))))))))) (.j ⟨[.o 6 26 .tree, .b 0 45 P_coresecmake_Deck], [0, 4, 5]⟩ false (.s .n (.b (.l .g ⟨[.o 6 26 .tree, .d 7 (.int .i64), .b 0 45 P_coresecmake_Deck], [0, 1, 4, 5]⟩ (.s (.s .n (.c .n .n)) (.j ⟨[.o 6 26 .tree, .b 0 45 P_coresecmake_Deck], [0, 1, 4, 5, 7]⟩ false (.b (.s .n (.s .n (.c .n .n)))) .n))))) (.s (.s .n (.c (.s .n .n) .n)) (.s .n (.s (.s .n (.c (.s .n .n) .n)) (.s .n .n))))))))))
theorem ob_coresecmake_Deck_Item (mf : cur [.p 45 P_coresecmake_Deck, .d (.int .i64)] (Option (tupR (([.d .tree] : List RK) ++ outs [.p 45 P_coresecmake_Deck, .d (.int .i64)])))) (okf : ∀ a r, app1 [.p 45 P_coresecmake_Deck, .d (.int .i64)] mf a = some r → OKc Tryz.prog 8 [.p 45 P_coresecmake_Deck, .d (.int .i64)] [.d .tree] a (toHL _ r)) : ∀ a r, app1 [.p 45 P_coresecmake_Deck, .d (.int .i64)] (b_coresecmake_Deck_Item mf) a = some r → OKc Tryz.prog 8 [.p 45 P_coresecmake_Deck, .d (.int .i64)] [.d .tree] a (toHL _ r) := fun a r h => mkM_ok (T := t_coresecmake_Deck_Item mf okf) (N := 104) (own := [79, 88]) (rng := []) (c := (codeOf Tryz.f8)) (h := h_coresecmake_Deck_Item) (qs := [.cell 4 26]) (ps := [.p 45 P_coresecmake_Deck, .d (.int .i64)]) (rs := [.d .tree]) kMix Tryz.func8 (by kernel_rfl) (by kernel_rfl) (by kernel_rfl) (by kernel_rfl) a r (Eq.trans (by kernel_rfl) h)
theorem on_coresecmake_Deck_Item : ∀ (n : Nat) a r, app1 [.p 45 P_coresecmake_Deck, .d (.int .i64)] (n_coresecmake_Deck_Item n) a = some r → OKc Tryz.prog 8 [.p 45 P_coresecmake_Deck, .d (.int .i64)] [.d .tree] a (toHL _ r)
 | 0, a, r, h => by cases (show (none : Option _) = some r from h)
 | n + 1, a, r, h => ob_coresecmake_Deck_Item (n_coresecmake_Deck_Item n) (on_coresecmake_Deck_Item n) a r h
def con_coresecmake_Deck_Item : Con Tryz.prog := ⟨8, [.p 45 P_coresecmake_Deck, .d (.int .i64)], [.d .tree], ⟨Tryz.f8, Tryz.func8, by kernel_rfl, by kernel_rfl⟩, m_coresecmake_Deck_Item, fun a r h => on_coresecmake_Deck_Item 40 a r h⟩
def t_cbor_plain : Tab Tryz.prog := ⟨tes, ses, fes, bes, [con_unicode_utf8_Valid], [], fds, [], qes, ges, mes, [], xes⟩
def h_cbor_plain : Hint := (.s .n (.s (.s .n (.b (.j ⟨[.d 7 .bool], [1, 6]⟩ false (.s .n (.c .n .n)) (.c (.j ⟨[.d 2 .bool, .d 3 .bool], []⟩ false .n .n) (.s .n (.c (.j ⟨[.d 2 .bool, .d 3 .bool], []⟩ false .n .n) (.s .n (.c (.j ⟨[.d 2 .bool, .d 3 .bool], []⟩ false .n .n) (.s .n (.c (.j ⟨[.d 2 .bool, .d 3 .bool], []⟩ false .n .n) (.s .n (.c (.s .n (.j ⟨[.d 2 .bool, .d 3 .bool], []⟩ false .n .n)) .n)))))))))))) (.s .n .n)))
def con_cbor_plain : Con Tryz.prog := ⟨62, [.d .tree], [.d .bool, .d .bool], ⟨Tryz.f62, Tryz.func62, by kernel_rfl, by kernel_rfl⟩, m_cbor_plain, fun a r h => mkM_ok (T := t_cbor_plain) (N := 99) (own := []) (rng := []) (c := (codeOf Tryz.f62)) (h := h_cbor_plain) (qs := [.tmp 2, .tmp 3]) kMix Tryz.func62 (by kernel_rfl) (by kernel_rfl) (by kernel_rfl) (by kernel_rfl) a r (Eq.trans (by kernel_rfl) h)⟩
def t_cbor_wide : Tab Tryz.prog := ⟨tes, ses, fes, bes, [], [], fds, [], qes, ges, mes, [], xes⟩
def h_cbor_wide : Hint := (.s .n (.s .n (.s (.s .n (.b (.l .g ⟨[.o 3 5 (.int .u8), .d 4 (.int .i64)], [0]⟩ (.s (.s .n (.c .n .n)) (.s (.b .n) .n))))) (.s .n .n))))
def con_cbor_wide : Con Tryz.prog := ⟨103, [.d (.int .u64)], [.d (.sl (.int .u8))], ⟨Tryz.f103, Tryz.func103, by kernel_rfl, by kernel_rfl⟩, m_cbor_wide, fun a r h => mkM_ok (T := t_cbor_wide) (N := 17) (own := [15]) (rng := []) (c := (codeOf Tryz.f103)) (h := h_cbor_wide) (qs := [.tmp 2]) kMix Tryz.func103 (by kernel_rfl) (by kernel_rfl) (by kernel_rfl) (by kernel_rfl) a r (Eq.trans (by kernel_rfl) h)⟩
def t_cbor_half : Tab Tryz.prog := ⟨tes, ses, fes, bes, [], [], fds, [], qes, ges, mes, [], xes⟩
def h_cbor_half : Hint := (.s .n (.s .n (.s .n (.s (.b (.s .n (.c (.s .n .n) (.s .n (.c (.s .n .n) (.j ⟨[.d 29 .bool], [4, 5, 6]⟩ false .n (.c (.s .n .n) (.j ⟨[.d 49 .bool], [4, 5, 6]⟩ false .n (.c (.s .n (.s .n (.s .n .n))) .n))))))))) (.s .n .n)))))
def con_cbor_half : Con Tryz.prog := ⟨105, [.d (.int .u32)], [.d (.int .u16), .d .bool], ⟨Tryz.f105, Tryz.func105, by kernel_rfl, by kernel_rfl⟩, m_cbor_half, fun a r h => mkM_ok (T := t_cbor_half) (N := 73) (own := []) (rng := []) (c := (codeOf Tryz.f105)) (h := h_cbor_half) (qs := [.tmp 2, .tmp 3]) kMix Tryz.func105 (by kernel_rfl) (by kernel_rfl) (by kernel_rfl) (by kernel_rfl) a r (Eq.trans (by kernel_rfl) h)⟩
theorem kZero_5 : TyZero Tryz.prog 5 (.int .u8 0) := fun w => by kernel_rfl
section
variable {P : Program} {N : Nat} {ops : Array Oper} {F : List (Nat × Value)} {w : World} {rest : List Oper} {K : Kont}
variable {ty : TypeId} {pos : String} {af : Array Edge} {g : Option (Nat × Bool)} {d : Nat} {x y : Operand} {t t' : TypeId}
theorem LW.shrC {ik yk : IntKind} {a n c : Int} (h0 : ¬ n < 0) (hc : a / 2 ^ min n.toNat ik.bits = c) (hw : Wn ops F g) (hdN : Nat.blt d N = true) (hx : ev F x = some (.int ik a)) (hy : ev F y = some (.int yk n))
  (h : LW P N ops rest ((d, .int ik c) :: F) w K) : LW P N ops (⟨some d, .binOp .shr t x y t', ty, pos, af, g⟩ :: rest) F w K :=
 LW.val rfl hw rfl hdN (fun _ ha => run_bin _ _ _ (ha.eval hx) (ha.eval hy) rfl (by rw [binOp_shr, shift_shr_any _ _ _ _ (by omega), hc]; rfl)) h
theorem LW.one {f : FuncId} {u v : Value} {ts : Array TypeId} (hr : ∀ w, (callFunc f #[u]).run P w = .ok (.value v) w) (hw : Wn ops F g) (hdN : Nat.blt d N = true) (hx : ev F x = some u)
  (h : LW P N ops rest ((d, v) :: F) w K) : LW P N ops (⟨some d, .call { callee := .value (.func f), args := #[x], argTypes := ts }, ty, pos, af, g⟩ :: rest) F w K :=
 LW.val rfl hw rfl hdN (fun q hq => by
  have e : (#[x].map q.eval) = #[u] := by simp [hq.eval hx]
  simp only [execOp, resolve, e, Act.eval, Deferred.ofValue, invoke, Sem.run_bind, Sem.run_pure, Result.andThen_ok]
  have e2 : (#[] ++ #[u] ++ #[] : Array Value) = #[u] := by simp
  rw [e2, hr]) h
theorem LW.neqF {a b : Int} {ik : IntKind} {tv : Bool} (he : (a != b) = tv) (hw : Wn ops F g) (hdN : Nat.blt d N = true) (hx : ev F x = some (.int ik a)) (hy : ev F y = some (.int ik b))
  (h : LW P N ops rest ((d, .bool tv) :: F) w K) : LW P N ops (⟨some d, .binOp .neq t x y t', ty, pos, af, g⟩ :: rest) F w K :=
 LW.neq (kb := some) (r := tv) (by rw [he]; rfl) hw hdN hx hy (fun c hc => by cases hc; exact h)
theorem LW.cv {u v : Value} {S T : TypeId} {w' : World} (hr : (convert S T u).run P w = .ok v w') (hw : Wn ops F g) (hdN : Nat.blt d N = true) (hx : ev F x = some u)
  (h : LW P N ops rest ((d, v) :: F) w' K) : LW P N ops (⟨some d, .convert S T x, ty, pos, af, g⟩ :: rest) F w K :=
 LW.val rfl hw rfl hdN (fun q hq => by simp only [execOp, hq.eval hx, Sem.run_bind, hr, Result.andThen_ok, Sem.run_pure]) h
end
theorem drew_ste {lab : Lab} {w w' : World} (t : Top lab w) (h : w' = w ∨ w' = w.drew) : Ste lab 0 w lab w' := by
 rcases h with rfl | rfl
 ·exact ⟨rfl, rfl, rfl, Nat.le_refl _, fun _ _ _ => rfl, fun _ _ => rfl, t⟩
 ·exact ⟨rfl, rfl, rfl, Nat.le_refl _, fun _ _ _ => rfl, fun _ _ => rfl, t⟩
theorem c_cbor_float {lab : Lab} {w : World} (n : UInt64) (r : List UInt8) (hm : m_cbor_float n = some r) (t : Top lab w) (gl : GL lab w) :
  Calls Tryz.prog 76 [.int .u64 (n.toNat : Int)].toArray w fun e w' => ∃ oa c, e = .returned (.slice oa r.length c) ∧ Ste lab 0 w lab w' ∧ SL (rep (.int .u8)) lab w' oa c r := by
 have hT : TySl Tryz.prog 23 5 1 1 (.int .u8 0) := se23.ok
 have hZ : TyZero Tryz.prog 5 (.int .u8 0) := kZero_5
 have h75 : ∀ (z : Int) w, (callFunc 75 #[.int .u64 z]).run Tryz.prog w = .ok (.value (.float .f64 z.toNat)) w := fun z w => by kernel_rfl
 have h102 : ∀ (z : Nat) w, (callFunc 102 #[.float .f64 z]).run Tryz.prog w = .ok (.value (.int .u64 (z : Int))) w := fun z w => by kernel_rfl
 have h104 : ∀ (z : Nat) w, (callFunc 104 #[.float .f32 z]).run Tryz.prog w = .ok (.value (.int .u32 (z : Int))) w := fun z w => by kernel_rfl
 have cx := Cx.start t
 have gl0 := gl.keep Keeps.lin
 have hn64 : n.toNat < 18446744073709551616 := n.toNat_lt
 refine enter Tryz.func76 rfl 51 rfl rfl ?_
 repeat refine CW.seq ?_
 refine CW.region ?_
 refine LW.assign wn rfl rfl ?_
 refine LW.nil ?_
 refine EW.seq_n ?_
 repeat refine CW.seq ?_
 refine CW.region ?_
 refine LW.move wn rfl rfl ?_
 refine LW.one (v := .float .f64 n.toNat) (h75 _) wn rfl rfl ?_
 refine LW.assign wn rfl rfl ?_
 refine LW.nil ?_
 refine EW.seq_n ?_
 repeat refine CW.seq ?_
 refine CW.region ?_
 refine LW.move wn rfl rfl ?_
 refine LW.move wn rfl rfl ?_
 refine LW.val (v := .bool (!(feq n n))) (w' := w) rfl wn rfl rfl (fun a ha => ?_) ?_
 ·exact run_bin _ _ _ (ha.eval (x := .tmp 10) (v := .float .f64 n.toNat) rfl) (ha.eval (x := .tmp 11) (v := .float .f64 n.toNat) rfl) rfl (run_neqF n n)
 refine LW.nil ?_
 refine EW.seq_n ?_
 repeat refine CW.seq ?_
 unfold m_cbor_float at hm
 cases hq : feq n n with
 | false =>
  rw [hq] at hm
  cases hm
  refine CW.cond_t rfl ?_
  repeat refine CW.seq ?_
  refine CW.region ?_
  refine LW.buildOwn (k := 2) (ρ := rep (.int .u8)) (vs := [(0, .int .u8 249), (1, .int .u8 126), (2, .int .u8 0)]) (css := [[.int .u8 249], [.int .u8 126], [.int .u8 0]]) (xs := ([249, 126, 0] : List UInt8)) rfl hT hZ (by kernel_rfl) rfl rfl (alls_str _ _ [249, 126, 0]) cx.top wn rfl ?_
  intro oa1 c1 lab1 w1 e1 o1
  replace cx := cx.step e1 rfl
  refine LW.assign wn rfl rfl ?_
  refine LW.nil ?_
  refine EW.seq_n ?_
  refine CW.ret ?_
  repeat refine EW.seq_r ?_
  exact EW.ret1 rfl rfl ⟨_, _, rfl, cx.ste t, o1.sl (cx.keeps t) (cx.own0 t rfl)⟩
 | true =>
  rw [hq] at hm
  refine CW.cond_f rfl ?_
  refine CW.skip ?_
  refine EW.seq_n ?_
  have hr : n.toNat % 9223372036854775808 ≤ 9218868437227405312 := by
   have h := feq_self n
   unfold feq at hq
   rw [hq] at h
   exact of_decide_eq_true h.symm
  obtain ⟨s, w1, d, w2, r1, r2, hs, hd, d1, d2, hc⟩ := run_both (P := Tryz.prog) (w := w) 107 134 134 107 n.toNat hn64 hr (by kernel_rfl) (by kernel_rfl) (by kernel_rfl) (by kernel_rfl)
  repeat refine CW.seq ?_
  refine CW.region ?_
  refine LW.move wn rfl rfl ?_
  refine LW.cv r1 wn rfl rfl ?_
  replace cx := cx.step (drew_ste cx.top d1) rfl
  refine LW.assign wn rfl rfl ?_
  refine LW.nil ?_
  refine EW.seq_n ?_
  repeat refine CW.seq ?_
  refine CW.region ?_
  refine LW.move wn rfl rfl ?_
  refine LW.cv r2 wn rfl rfl ?_
  have gl1 := gl0.keep (drew_ste (Cx.start t).top d1).keeps
  have gl2 := gl1.keep (drew_ste cx.top d2).keeps
  replace cx := cx.step (drew_ste cx.top d2) rfl
  refine LW.one (v := .int .u64 (d : Int)) (h102 _) wn rfl rfl ?_
  refine LW.move wn rfl rfl ?_
  clear r1 r2 gl1 gl0 gl
  rcases hc with ⟨rfl, hc⟩ | ⟨hne, hc⟩
  ·rw [hc] at hm
   refine LW.neqF (tv := false) (by simp) wn rfl rfl rfl ?_
   refine LW.nil ?_
   refine EW.seq_n ?_
   repeat refine CW.seq ?_
   refine CW.cond_f rfl ?_
   refine CW.skip ?_
   refine EW.seq_n ?_
   repeat refine CW.seq ?_
   refine CW.region ?_
   refine LW.move wn rfl rfl ?_
   refine LW.one (v := .int .u32 (s : Int)) (h104 _) wn rfl rfl ?_
   refine LW.assign wn rfl rfl ?_
   refine LW.nil ?_
   refine EW.seq_n ?_
   repeat refine CW.seq ?_
   refine CW.region ?_
   refine LW.move wn rfl rfl ?_
   obtain ⟨x, hx, hm⟩ := bnd_some (show bnd (m_cbor_half (UInt32.ofNat s)) (fun x => some (bif x.2 then [249, toU8 (x.1 / 256), toU8 x.1] else [250, toU8 ((s : Int) / 16777216), toU8 ((s : Int) / 65536), toU8 ((s : Int) / 256), toU8 (s : Int)])) = some r from hm)
   have es : (UInt32.ofNat s).toNat = s := by
    rw [UInt32.toNat_ofNat_of_lt' hs]
   have hcall := con_cbor_half.ok (UInt32.ofNat s, ()) x hx 3 3 0 _ _ [.int .u32 (s : Int)] cx.top gl2 (fun h => by cases h) (by decide) ⟨by
    have h9 : Dat (.int .u32) (UInt32.ofNat s) (lin lab) w2 (.int .u32 ((UInt32.ofNat s).toNat : Int)) := Dat.ofInt (k := .u32) _
    rw [es] at h9
    exact h9, trivial⟩
   refine LW.call ⟨Tryz.f105, Tryz.func105, by kernel_rfl, by kernel_rfl⟩ (vs := [.int .u32 (s : Int)]) hcall wn rfl rfl ?_
   rintro e w3 ⟨lab3, us, rfl, hst, hres⟩
   match us, hres with
   | [u1, u2], ⟨q1, q2, _⟩ =>
   obtain rfl := Dat.int (k := .u16) q1
   obtain rfl := Dat.bool q2
   replace cx := cx.stp hst rfl
   refine ⟨_, rfl, ?_⟩
   refine LW.move wn rfl rfl ?_
   refine LW.extract (vs := [.int .u16 x.1, .bool x.2]) (i := 0) wn rfl rfl rfl ?_
   refine LW.extract (vs := [.int .u16 x.1, .bool x.2]) (i := 1) wn rfl rfl rfl ?_
   refine LW.assign wn rfl rfl ?_
   refine LW.assign wn rfl rfl ?_
   refine LW.nil ?_
   refine EW.seq_n ?_
   repeat refine CW.seq ?_
   refine CW.region ?_
   refine LW.move wn rfl rfl ?_
   refine LW.nil ?_
   refine EW.seq_n ?_
   repeat refine CW.seq ?_
   obtain ⟨x1, x2⟩ := x
   clear hx hcall q1 q2 hres hst
   cases x2 with
   | true =>
    cases hm
    refine CW.cond_t rfl ?_
    repeat refine CW.seq ?_
    refine CW.region ?_
    refine LW.move wn rfl rfl ?_
    refine LW.shrC (c := x1 / 256) (by decide) rfl wn rfl rfl rfl ?_
    refine LW.cvt_u8 (k := some) rfl (by kernel_rfl) (by show Tryz.prog.underlying _ = _; kernel_rfl) wn rfl rfl ?_
    intro c1 hc1
    cases hc1
    refine LW.move wn rfl rfl ?_
    refine LW.cvt_u8 (k := some) rfl (by kernel_rfl) (by show Tryz.prog.underlying _ = _; kernel_rfl) wn rfl rfl ?_
    intro c2 hc2
    cases hc2
    refine LW.buildOwn (k := 2) (ρ := rep (.int .u8)) (vs := [(0, .int .u8 249), (1, .int .u8 ((toU8 (x1 / 256)).toNat : Int)), (2, .int .u8 ((toU8 x1).toNat : Int))]) (css := [[.int .u8 249], [.int .u8 ((toU8 (x1 / 256)).toNat : Int)], [.int .u8 ((toU8 x1).toNat : Int)]]) (xs := ([249, toU8 (x1 / 256), toU8 x1] : List UInt8)) rfl hT hZ (by kernel_rfl) rfl rfl (alls_str _ _ [249, toU8 (x1 / 256), toU8 x1]) cx.top wn rfl ?_
    intro oa1 c1 lab1 w4 e1 o1
    replace cx := cx.step e1 rfl
    refine LW.assign wn rfl rfl ?_
    refine LW.nil ?_
    refine EW.seq_n ?_
    refine CW.ret ?_
    repeat refine EW.seq_r ?_
    exact EW.ret1 rfl rfl ⟨_, _, rfl, cx.ste t, o1.sl (cx.keeps t) (cx.own0 t rfl)⟩
   | false =>
    cases hm
    refine CW.cond_f rfl ?_
    refine CW.skip ?_
    refine EW.seq_n ?_
    repeat refine CW.seq ?_
    refine CW.region ?_
    refine LW.move wn rfl rfl ?_
    refine LW.shrC (c := (s : Int) / 16777216) (by decide) rfl wn rfl rfl rfl ?_
    refine LW.cvt_u8 (k := some) rfl (by kernel_rfl) (by show Tryz.prog.underlying _ = _; kernel_rfl) wn rfl rfl ?_
    intro c1 hc1
    cases hc1
    refine LW.move wn rfl rfl ?_
    refine LW.shrC (c := (s : Int) / 65536) (by decide) rfl wn rfl rfl rfl ?_
    refine LW.cvt_u8 (k := some) rfl (by kernel_rfl) (by show Tryz.prog.underlying _ = _; kernel_rfl) wn rfl rfl ?_
    intro c1 hc1
    cases hc1
    refine LW.move wn rfl rfl ?_
    refine LW.shrC (c := (s : Int) / 256) (by decide) rfl wn rfl rfl rfl ?_
    refine LW.cvt_u8 (k := some) rfl (by kernel_rfl) (by show Tryz.prog.underlying _ = _; kernel_rfl) wn rfl rfl ?_
    intro c1 hc1
    cases hc1
    refine LW.move wn rfl rfl ?_
    refine LW.cvt_u8 (k := some) rfl (by kernel_rfl) (by show Tryz.prog.underlying _ = _; kernel_rfl) wn rfl rfl ?_
    intro c2 hc2
    cases hc2
    refine LW.buildOwn (k := 2) (ρ := rep (.int .u8)) (vs := [(0, .int .u8 250), (1, .int .u8 ((toU8 ((s : Int) / 16777216)).toNat : Int)), (2, .int .u8 ((toU8 ((s : Int) / 65536)).toNat : Int)), (3, .int .u8 ((toU8 ((s : Int) / 256)).toNat : Int)), (4, .int .u8 ((toU8 (s : Int)).toNat : Int))]) (css := [[.int .u8 250], [.int .u8 ((toU8 ((s : Int) / 16777216)).toNat : Int)], [.int .u8 ((toU8 ((s : Int) / 65536)).toNat : Int)], [.int .u8 ((toU8 ((s : Int) / 256)).toNat : Int)], [.int .u8 ((toU8 (s : Int)).toNat : Int)]]) (xs := ([250, toU8 ((s : Int) / 16777216), toU8 ((s : Int) / 65536), toU8 ((s : Int) / 256), toU8 (s : Int)] : List UInt8)) rfl hT hZ (by kernel_rfl) rfl rfl (alls_str _ _ [250, toU8 ((s : Int) / 16777216), toU8 ((s : Int) / 65536), toU8 ((s : Int) / 256), toU8 (s : Int)]) cx.top wn rfl ?_
    intro oa1 c1 lab1 w4 e1 o1
    replace cx := cx.step e1 rfl
    refine LW.assign wn rfl rfl ?_
    refine LW.nil ?_
    refine EW.seq_n ?_
    refine CW.ret ?_
    repeat refine EW.seq_r ?_
    exact EW.ret1 rfl rfl ⟨_, _, rfl, cx.ste t, o1.sl (cx.keeps t) (cx.own0 t rfl)⟩
  ·rw [hc] at hm
   refine LW.neqF (tv := true) (by simp; omega) wn rfl rfl rfl ?_
   refine LW.nil ?_
   refine EW.seq_n ?_
   repeat refine CW.seq ?_
   refine CW.cond_t rfl ?_
   repeat refine CW.seq ?_
   obtain ⟨x, hx, hm⟩ := bnd_some (show bnd (m_cbor_wide n) (fun x => app [251] x) = some r from hm)
   refine CW.region ?_
   refine LW.buildOwn (k := 2) (ρ := rep (.int .u8)) (vs := [(0, .int .u8 251)]) (css := [[.int .u8 251]]) (xs := ([251] : List UInt8)) rfl hT hZ (by kernel_rfl) rfl rfl (alls_str _ _ [251]) cx.top wn rfl ?_
   intro oa1 c1 lab1 w3 e1 o1
   replace cx := cx.step e1 rfl
   have gl3 := gl2.keep e1.keeps
   refine LW.move wn rfl rfl ?_
   have hcall := con_cbor_wide.ok (n, ()) x hx 3 3 0 _ _ [.int .u64 (n.toNat : Int)] cx.top gl3 (fun h => by cases h) (by decide) ⟨Dat.ofInt (k := .u64) n, trivial⟩
   refine LW.call ⟨Tryz.f103, Tryz.func103, by kernel_rfl, by kernel_rfl⟩ (vs := [.int .u64 (n.toNat : Int)]) hcall wn rfl rfl ?_
   rintro e w4 ⟨lab4, us, rfl, hst, hres⟩
   match us, hres with
   | [u1], ⟨q1, _⟩ =>
   obtain ⟨oa', c', rfl, s'⟩ := Dat.sl q1
   replace cx := cx.stp hst rfl
   have o2 := o1.ke hst.ke ke_no0 (ke_no rfl)
   refine ⟨_, rfl, ?_⟩
   have hm2 : bnd (app ([251] : List UInt8) x) some = some r := by rw [hm]; rfl
   refine LW.append (ρ := rep (.int .u8)) (kk := some) (xs := ([251] : List UInt8)) (ys := x) (c' := c') hm2 o2 (SL.flat' s') cx.top rfl hT rfl wn rfl rfl rfl ?_
   intro zs oa2 c2 lab5 w5 hz e2 o3
   cases hz
   replace cx := cx.step e2 rfl
   refine LW.assign wn rfl rfl ?_
   refine LW.nil ?_
   refine EW.seq_n ?_
   refine CW.ret ?_
   repeat refine EW.seq_r ?_
   exact EW.ret1 rfl rfl ⟨_, _, rfl, cx.ste t, o3.sl (cx.keeps t) (cx.own0 t rfl)⟩
def con_cbor_float : Con Tryz.prog := ⟨76, [.d (.int .u64)], [.d (.sl (.int .u8))], ⟨Tryz.f76, Tryz.func76, by kernel_rfl, by kernel_rfl⟩, m_cbor_float, by
 intro a r h k kp gp lab w vs t gl _ hk hargs
 match vs, hargs with
 | [v], hargs =>
  obtain ⟨h1, _⟩ := hargs
  obtain rfl := Dat.int (k := .u64) h1
  refine (c_cbor_float a.1 r h t gl).mono ?_
  rintro e w' ⟨oa, c, rfl, hs, s⟩
  exact ⟨lab, [_], rfl, hs.stp (.inr rfl), Dat.ofSl (t := .int .u8) s, trivial⟩⟩
def t_cbor_major : Tab Tryz.prog := ⟨tes, ses, fes, bes, [], [], fds, [], qes, ges, mes, [], xes⟩
def h_cbor_major : Hint := (.s .n (.s (.s .n (.b (.j ⟨[.d 6 .bool], [1, 5]⟩ false (.s .n (.c .n .n)) (.c (.s .n .n) (.s .n (.c (.s .n .n) (.s .n (.c (.s .n .n) .n)))))))) (.s .n .n)))
def con_cbor_major : Con Tryz.prog := ⟨78, [.d .tree], [.d (.int .u8), .d (.int .u64)], ⟨Tryz.f78, Tryz.func78, by kernel_rfl, by kernel_rfl⟩, m_cbor_major, fun a r h => mkM_ok (T := t_cbor_major) (N := 34) (own := []) (rng := []) (c := (codeOf Tryz.f78)) (h := h_cbor_major) (qs := [.tmp 2, .tmp 3]) kMix Tryz.func78 (by kernel_rfl) (by kernel_rfl) (by kernel_rfl) (by kernel_rfl) a r (Eq.trans (by kernel_rfl) h)⟩
def t_cbor_head : Tab Tryz.prog := ⟨tes, ses, fes, bes, [], [], fds, [], qes, ges, mes, [], xes⟩
def h_cbor_head : Hint := (.s .n (.s .n (.s (.b (.s .n (.c (.s .n .n) (.s .n (.c (.s .n .n) (.s .n (.c (.s .n .n) (.s .n (.c (.s .n .n) .n))))))))) (.s .n (.s (.s .n (.b (.l .g ⟨[.o 6 5 (.int .u8), .d 7 (.int .i64)], [1]⟩ (.s (.s .n (.c .n .n)) (.s (.b .n) .n))))) (.s .n .n))))))
def con_cbor_head : Con Tryz.prog := ⟨77, [.d (.int .u8), .d (.int .u64)], [.d (.sl (.int .u8))], ⟨Tryz.f77, Tryz.func77, by kernel_rfl, by kernel_rfl⟩, m_cbor_head, fun a r h => mkM_ok (T := t_cbor_head) (N := 69) (own := [56, 67]) (rng := []) (c := (codeOf Tryz.f77)) (h := h_cbor_head) (qs := [.tmp 4]) kMix Tryz.func77 (by kernel_rfl) (by kernel_rfl) (by kernel_rfl) (by kernel_rfl) a r (Eq.trans (by kernel_rfl) h)⟩
def t_cbor_checker_spend : Tab Tryz.prog := ⟨tes, ses, fes, bes, [con_cbor_float, con_cbor_major, con_cbor_head], [], fds, [], qes, ges, mes, [], xes⟩
def h_cbor_checker_spend : Hint := (.s .n (.j ⟨[.b 0 69 P_cbor_checker], [0]⟩ false (.s .n (.b (.s .n (.c .n (.s .n (.c (.s .n (.s .n (.c .n .n))) .n)))))) (.s .n .n)))
def con_cbor_checker_spend : Con Tryz.prog := ⟨63, [.p 69 P_cbor_checker, .d .tree], [.d .bool], ⟨Tryz.f63, Tryz.func63, by kernel_rfl, by kernel_rfl⟩, m_cbor_checker_spend, fun a r h => mkM_ok (T := t_cbor_checker_spend) (N := 61) (own := []) (rng := []) (c := (codeOf Tryz.f63)) (h := h_cbor_checker_spend) (qs := [.tmp 4]) kMix Tryz.func63 (by kernel_rfl) (by kernel_rfl) (by kernel_rfl) (by kernel_rfl) a r (Eq.trans (by kernel_rfl) h)⟩
def cz_cbor_add_o (mf : cur [.r 5 (.int .u8), .d .tree] (Option (tupR (([.o 5 (.int .u8)] : List RK) ++ outs [.r 5 (.int .u8), .d .tree])))) (okf : ∀ a r, app1 [.r 5 (.int .u8), .d .tree] mf a = some r → OKc Tryz.prog 80 [.r 5 (.int .u8), .d .tree] [.o 5 (.int .u8)] a (toHL _ r)) : Con Tryz.prog := ⟨80, [.r 5 (.int .u8), .d .tree], [.o 5 (.int .u8)], ⟨Tryz.f80, Tryz.func80, by kernel_rfl, by kernel_rfl⟩, mf, okf⟩
def t_cbor_add_o (mf : cur [.r 5 (.int .u8), .d .tree] (Option (tupR (([.o 5 (.int .u8)] : List RK) ++ outs [.r 5 (.int .u8), .d .tree])))) (okf : ∀ a r, app1 [.r 5 (.int .u8), .d .tree] mf a = some r → OKc Tryz.prog 80 [.r 5 (.int .u8), .d .tree] [.o 5 (.int .u8)] a (toHL _ r)) : Tab Tryz.prog := ⟨tes, ses, fes, bes, [con_cbor_float, con_cbor_major, con_cbor_head, cz_cbor_add_o mf okf], [], fds, [], qes, ges, mes, [], xes⟩
def h_cbor_add_o : Hint := (.s .n (.s (.b (.s .n (.c (.s .n .n) (.j ⟨[.d 16 .bool], [0, 3]⟩ false .n (.c (.s .n .n) .n))))) (.s .n (.s .n (.s (.s .n (.b (.l (.a 45 44) ⟨[.o 0 5 (.int .u8)], [43, 44]⟩ (.s .n (.s (.c .n .n) (.s (.b (.s .n .n)) .n)))))) (.s .n .n))))))
theorem ob_cbor_add_o (mf : cur [.r 5 (.int .u8), .d .tree] (Option (tupR (([.o 5 (.int .u8)] : List RK) ++ outs [.r 5 (.int .u8), .d .tree])))) (okf : ∀ a r, app1 [.r 5 (.int .u8), .d .tree] mf a = some r → OKc Tryz.prog 80 [.r 5 (.int .u8), .d .tree] [.o 5 (.int .u8)] a (toHL _ r)) : ∀ a r, app1 [.r 5 (.int .u8), .d .tree] (b_cbor_add_o mf) a = some r → OKc Tryz.prog 80 [.r 5 (.int .u8), .d .tree] [.o 5 (.int .u8)] a (toHL _ r) := fun a r h => mkM_ok (T := t_cbor_add_o mf okf) (N := 54) (own := [15, 30, 37, 41]) (rng := [44]) (c := (codeOf Tryz.f80)) (h := h_cbor_add_o) (qs := [.tmp 4]) (ps := [.r 5 (.int .u8), .d .tree]) (rs := [.o 5 (.int .u8)]) kMix Tryz.func80 (by kernel_rfl) (by kernel_rfl) (by kernel_rfl) (by kernel_rfl) a r (Eq.trans (by kernel_rfl) h)
theorem on_cbor_add_o : ∀ (n : Nat) a r, app1 [.r 5 (.int .u8), .d .tree] (n_cbor_add_o n) a = some r → OKc Tryz.prog 80 [.r 5 (.int .u8), .d .tree] [.o 5 (.int .u8)] a (toHL _ r)
 | 0, a, r, h => by cases (show (none : Option _) = some r from h)
 | n + 1, a, r, h => ob_cbor_add_o (n_cbor_add_o n) (on_cbor_add_o n) a r h
def con_cbor_add_o : Con Tryz.prog := ⟨80, [.r 5 (.int .u8), .d .tree], [.o 5 (.int .u8)], ⟨Tryz.f80, Tryz.func80, by kernel_rfl, by kernel_rfl⟩, m_cbor_add_o, fun a r h => on_cbor_add_o 40 a r h⟩
def t_cbor_add : Tab Tryz.prog := ⟨tes, ses, fes, bes, [con_cbor_float, con_cbor_major, con_cbor_head, con_cbor_add_o], [], fds, [], qes, ges, mes, [], xes⟩
def h_cbor_add : Hint := (.s .n (.s (.b (.s .n (.c (.s .n .n) (.j ⟨[.d 16 .bool], [0, 3]⟩ false .n (.c (.s .n .n) .n))))) (.s .n (.s .n (.s (.s .n (.b (.l (.a 45 44) ⟨[.o 0 5 (.int .u8)], [43, 44]⟩ (.s .n (.s (.c .n .n) (.s (.b (.s .n .n)) .n)))))) (.s .n .n))))))
def con_cbor_add : Con Tryz.prog := ⟨80, [.r 5 (.int .u8), .d .tree], [.d (.sl (.int .u8))], ⟨Tryz.f80, Tryz.func80, by kernel_rfl, by kernel_rfl⟩, m_cbor_add, fun a r h => mkM_ok (T := t_cbor_add) (N := 54) (own := [37, 41]) (rng := [44]) (c := (codeOf Tryz.f80)) (h := h_cbor_add) (qs := [.tmp 4]) kMix Tryz.func80 (by kernel_rfl) (by kernel_rfl) (by kernel_rfl) (by kernel_rfl) a r (Eq.trans (by kernel_rfl) h)⟩
theorem run_bytesOf_sl {P : Program} {lab : Lab} {w : World} {oa : Option Addr} {c : Nat} {xs : List UInt8} (s : SL Rep.u8 lab w oa c xs) :
  (Extern.Bytes.bytesOf (.slice oa xs.length c)).run P w = .ok ⟨xs.toArray⟩ w := by
 obtain ⟨h0, css, h1, h2⟩ := SL.flat' s
 have hcss : css.flatten = xs.map fun x => Value.int .u8 (x.toNat : Int) := by
  clear h2 s h0
  induction css generalizing xs with
  | nil => cases xs with
   | nil => rfl
   | cons _ _ => exact h1.elim
  | cons cs css ih => cases xs with
   | nil => exact h1.elim
   | cons x xs =>
    have e : cs = [Value.int .u8 (x.toNat : Int)] := h1.1
    rw [List.flatten_cons, ih h1.2, e]
    rfl
 cases oa with
 | none =>
  obtain rfl := h0 rfl
  rfl
 | some ad =>
  have h3 : ∀ (j : Nat) (x : Int), (xs.map fun b : UInt8 => (b.toNat : Int))[j]? = some x → w.cell? (ad.add j) = some (.int .u8 x) := by
   intro j x hx
   refine h2 ad rfl j _ ?_
   rw [hcss]
   simp only [List.getElem?_map, Option.map_eq_some_iff] at hx ⊢
   obtain ⟨b, hb, rfl⟩ := hx
   exact ⟨b, hb, rfl⟩
  have h4 := Lib.run_loadBytesX (P := P) w _ ad .empty h3
  rw [List.length_map] at h4
  show (Extern.Bytes.loadBytes ad xs.length .empty).run P w = _
  rw [h4]
  congr 1
  apply ByteArray.ext
  have e : Lib.bytesOf (xs.map fun b : UInt8 => (b.toNat : Int)) = xs := by
   unfold Lib.bytesOf
   rw [List.map_map]
   refine (List.map_congr_left (g := id) fun b _ => ?_).trans (List.map_id _)
   simp
  rw [e]
  simp [ByteArray.empty, ByteArray.emptyWithCapacity]
  try rfl
theorem run_compare {P : Program} {lab : Lab} {w : World} {oa ob : Option Addr} {c d : Nat} {xs ys : List UInt8} (s : SL Rep.u8 lab w oa c xs) (s' : SL Rep.u8 lab w ob d ys) :
  (Extern.BytealgCompare.compare #[.slice oa xs.length c, .slice ob ys.length d]).run P w = .ok (.int .i64 (Lib.compareBytes xs ys)) w := by
 change Sem.run P (do pure (goInt (Extern.BytealgCompare.cmp (← Extern.Bytes.bytesOf (.slice oa xs.length c)) (← Extern.Bytes.bytesOf (.slice ob ys.length d))))) w = _
 simp only [Sem.run_bind, run_bytesOf_sl s, run_bytesOf_sl s', Sem.run_pure, Result.andThen]
 rw [Lib.cmp_eq]
 rfl
theorem c_bytes_Compare {lab : Lab} {w : World} {oa ob : Option Addr} {c d : Nat} {xs ys : List UInt8} (s : SL Rep.u8 lab w oa c xs) (s' : SL Rep.u8 lab w ob d ys) :
  Calls Tryz.prog 79 [.slice oa xs.length c, .slice ob ys.length d].toArray w fun e w' => e = .returned (.int .i64 (Lib.compareBytes xs ys)) ∧ w' = w := by
 refine enter Tryz.func79 rfl 8 rfl rfl ?_
 repeat refine CW.seq ?_
 refine CW.region ?_
 refine LW.assign wn rfl rfl ?_
 refine LW.nil ?_
 refine EW.seq_n ?_
 repeat refine CW.seq ?_
 refine CW.region ?_
 refine LW.move wn rfl rfl ?_
 refine LW.move wn rfl rfl ?_
 refine LW.val (v := .int .i64 (Lib.compareBytes xs ys)) (w' := w) rfl wn rfl rfl (fun a ha => ?_) ?_
 ·have e1 := ha.eval (x := .tmp 5) (v := .slice oa xs.length c) rfl
  have e2 := ha.eval (x := .tmp 6) (v := .slice ob ys.length d) rfl
  have e : (#[Operand.tmp 5, Operand.tmp 6].map a.eval) = #[.slice oa xs.length c, .slice ob ys.length d] := by simp [e1, e2]
  simp only [execOp, resolve, e, Act.eval, Deferred.ofValue, invoke, Sem.run_bind, Sem.run_pure, Result.andThen_ok]
  have e2 : (#[] ++ #[.slice oa xs.length c, .slice ob ys.length d] ++ #[] : Array Value) = #[.slice oa xs.length c, .slice ob ys.length d] := by simp
  rw [e2, run_callFunc_extern (fn := Tryz.f106) (e := Extern.BytealgCompare.compare) (by kernel_rfl) (by kernel_rfl) (by kernel_rfl) (by kernel_rfl) (by kernel_rfl), run_compare s s']
  rfl
 refine LW.assign wn rfl rfl ?_
 refine LW.nil ?_
 refine EW.seq_n ?_
 refine CW.ret ?_
 repeat refine EW.seq_r ?_
 exact EW.ret1 rfl rfl ⟨rfl, rfl⟩
def con_bytes_Compare : Con Tryz.prog := ⟨79, [.d (.sl (.int .u8)), .d (.sl (.int .u8))], [.d (.int .i64)], ⟨Tryz.f79, Tryz.func79, by kernel_rfl, by kernel_rfl⟩, m_bytes_Compare, by
 intro a r h k kp gp lab w vs t _ _ hk hargs
 match vs, hargs with
 | [v1, v2], hargs =>
  obtain ⟨h1, h2, _⟩ := hargs
  obtain ⟨oa, c, rfl, s⟩ := Dat.sl h1
  obtain ⟨ob, d, rfl, s'⟩ := Dat.sl h2
  have h : some (Lib.compareBytes a.1 a.2.1) = some r := h
  cases h
  refine (c_bytes_Compare s s').mono ?_
  rintro e w' ⟨rfl, rfl⟩
  exact ⟨lab, [_], rfl, Stp.refl t, Dat.ofInt (k := .i64) _, trivial⟩⟩
def t_cbor_ascending : Tab Tryz.prog := ⟨tes, ses, fes, bes, [con_cbor_add, con_bytes_Compare], [], fds, [], qes, ges, mes, [], xes⟩
def h_cbor_ascending : Hint := (.s .n (.s (.s .n (.b (.l .g ⟨[.d 3 (.int .i64)], [0]⟩ (.s (.s .n (.c .n .n)) (.s (.b (.s .n (.c (.s .n .n) .n))) .n))))) (.s .n .n)))
def con_cbor_ascending : Con Tryz.prog := ⟨64, [.d (.sl .tree)], [.d .bool], ⟨Tryz.f64, Tryz.func64, by kernel_rfl, by kernel_rfl⟩, m_cbor_ascending, fun a r h => mkM_ok (T := t_cbor_ascending) (N := 23) (own := []) (rng := []) (c := (codeOf Tryz.f64)) (h := h_cbor_ascending) (qs := [.tmp 2]) kMix Tryz.func64 (by kernel_rfl) (by kernel_rfl) (by kernel_rfl) (by kernel_rfl) a r (Eq.trans (by kernel_rfl) h)⟩
end
end Go.Proofs.YtbfkbakadpkgoaaGreatDoor
