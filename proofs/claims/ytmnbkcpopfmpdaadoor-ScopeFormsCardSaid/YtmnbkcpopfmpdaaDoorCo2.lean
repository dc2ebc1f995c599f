/-
  The functions compute their models: what the evaluator gives is the model, by the kernel. No condition.
-/
import Derived.Test.YtmnbkcpopfmpdaaDoorCo1
namespace Go.Proofs.YtmnbkcpopfmpdaaDoor
open Go.Gk Go.RowKit
noncomputable section
set_option maxRecDepth 100000
def t_coreseclaw39_ScopeLattice : Tab Tryd.prog := ⟨tes, ses, fes, bes, [con_coreseclaw39_awake, con_coresecmake_New, con_coresecmake2_Scope, con_scope_Meet, con_scope_Join, con_scope_Normal, con_coreseclaw39_paths, con_scope_Permits, con_scope_Within, con_coresecref39_Same], [], fds, [], qes, ges, mes, []⟩
def h_coreseclaw39_ScopeLattice : Hint := (.s .n (.s (.s .n (.c (.s .n .n) .n)) (.s .n (.s .n (.s .n (.s (.j ⟨[.d 60 .bool], [3, 9, 10, 11, 12, 13, 14, 15]⟩ false .n (.c (.s .n .n) .n)) (.s .n (.j ⟨[], [9, 10, 11, 12, 13, 14, 15, 16]⟩ true (.s .n (.b (.l (.a 66 65) ⟨[], [9, 10, 11, 12, 13, 14, 15, 16, 64, 65]⟩ (.s .n (.s (.c .n .n) (.j ⟨[], [9, 10, 11, 12, 13, 14, 15, 16, 64, 65, 66]⟩ true (.b (.s .n (.s .n (.b (.l .g ⟨[.d 19 (.int .i64)], [9, 10, 11, 12, 13, 14, 15, 16, 18, 64, 65, 66]⟩ (.s (.s .n (.c .n .n)) (.s (.b (.s .n (.j ⟨[.d 117 .bool], [9, 10, 11, 12, 13, 14, 15, 16, 18, 19, 64, 65, 66]⟩ false .n (.c (.s .n .n) .n)))) .n))))))) .n)))))) (.s (.j ⟨[.d 146 .bool], [9, 10, 11, 14, 15, 16]⟩ false .n (.c (.s .n .n) .n)) (.s (.j ⟨[.d 174 .bool], [16]⟩ false .n (.c (.s .n .n) .n)) (.j ⟨[.d 8 .bool], []⟩ false .n .n)))))))))))

def con_coreseclaw39_ScopeLattice : Con Tryd.prog := ⟨7, [.d (.sl (.int .i64)), .d (.sl (.int .i64)), .d (.sl (.int .i64)), .d .str], [.d .bool], ⟨Tryd.f7, Tryd.func7, by kernel_rfl, by kernel_rfl⟩, m_coreseclaw39_ScopeLattice, fun a r h => mkM_ok (T := t_coreseclaw39_ScopeLattice) (N := 182) (own := []) (rng := [65]) (c := (codeOf Tryd.f7)) (h := h_coreseclaw39_ScopeLattice) (qs := [.tmp 8]) kMix Tryd.func7 (by kernel_rfl) (by kernel_rfl) (by kernel_rfl) (by kernel_rfl) a r (Eq.trans (by kernel_rfl) h)⟩
def t_coreseclaw39_light : Tab Tryd.prog := ⟨tes, ses, fes, bes, [], [], fds, [], qes, ges, mes, []⟩
def h_coreseclaw39_light : Hint := (.s .n (.s (.s .n (.b (.l (.a 7 6) ⟨[], [0, 5, 6]⟩ (.s .n (.s (.c .n .n) (.s (.b (.s .n (.s .n (.c (.s .n .n) .n)))) .n)))))) (.s .n .n)))

def con_coreseclaw39_light : Con Tryd.prog := ⟨8, [.d (.sl P_api_Permit)], [.d .bool], ⟨Tryd.f8, Tryd.func8, by kernel_rfl, by kernel_rfl⟩, m_coreseclaw39_light, fun a r h => mkM_ok (T := t_coreseclaw39_light) (N := 19) (own := []) (rng := [6]) (c := (codeOf Tryd.f8)) (h := h_coreseclaw39_light) (qs := [.tmp 2]) kMix Tryd.func8 (by kernel_rfl) (by kernel_rfl) (by kernel_rfl) (by kernel_rfl) a r (Eq.trans (by kernel_rfl) h)⟩
def t_coresecref39_Written : Tab Tryd.prog := ⟨tes, ses, fes, bes, [], [], fds, [], qes, ges, mes, []⟩
def h_coresecref39_Written : Hint := (.s .n (.s (.j ⟨[.d 16 .bool], [0]⟩ false .n (.c (.s .n .n) .n)) (.s (.s .n (.b (.l .g ⟨[.d 3 (.int .i64)], [0]⟩ (.s (.s .n (.c .n .n)) (.s (.b (.j ⟨[.d 50 .bool], [0, 3]⟩ false .n (.c (.s .n .n) .n))) .n))))) (.s .n .n))))

def con_coresecref39_Written : Con Tryd.prog := ⟨50, [.d .str], [.d .bool], ⟨Tryd.f50, Tryd.func50, by kernel_rfl, by kernel_rfl⟩, m_coresecref39_Written, fun a r h => mkM_ok (T := t_coresecref39_Written) (N := 51) (own := []) (rng := []) (c := (codeOf Tryd.f50)) (h := h_coresecref39_Written) (qs := [.tmp 2]) kMix Tryd.func50 (by kernel_rfl) (by kernel_rfl) (by kernel_rfl) (by kernel_rfl) a r (Eq.trans (by kernel_rfl) h)⟩
def t_coresecref39_fine : Tab Tryd.prog := ⟨tes, ses, fes, bes, [con_coresecref39_Written], [], fds, [], qes, ges, mes, []⟩
def h_coresecref39_fine : Hint := (.s .n (.j ⟨[.d 2 .bool], []⟩ false .n .n))

def con_coresecref39_fine : Con Tryd.prog := ⟨35, [.d P_api_Permit], [.d .bool], ⟨Tryd.f35, Tryd.func35, by kernel_rfl, by kernel_rfl⟩, m_coresecref39_fine, fun a r h => mkM_ok (T := t_coresecref39_fine) (N := 16) (own := []) (rng := []) (c := (codeOf Tryd.f35)) (h := h_coresecref39_fine) (qs := [.tmp 2]) kMix Tryd.func35 (by kernel_rfl) (by kernel_rfl) (by kernel_rfl) (by kernel_rfl) a r (Eq.trans (by kernel_rfl) h)⟩
def t_coresecref39_Valid : Tab Tryd.prog := ⟨tes, ses, fes, bes, [con_coresecref39_fine], [], fds, [], qes, ges, mes, []⟩
def h_coresecref39_Valid : Hint := (.s .n (.s (.s .n (.b (.l (.a 7 6) ⟨[], [0, 5, 6]⟩ (.s .n (.s (.c .n .n) (.s (.b (.s .n (.s .n (.c (.s .n .n) .n)))) .n)))))) (.s .n .n)))

def con_coresecref39_Valid : Con Tryd.prog := ⟨13, [.d (.sl P_api_Permit)], [.d .bool], ⟨Tryd.f13, Tryd.func13, by kernel_rfl, by kernel_rfl⟩, m_coresecref39_Valid, fun a r h => mkM_ok (T := t_coresecref39_Valid) (N := 18) (own := []) (rng := [6]) (c := (codeOf Tryd.f13)) (h := h_coresecref39_Valid) (qs := [.tmp 2]) kMix Tryd.func13 (by kernel_rfl) (by kernel_rfl) (by kernel_rfl) (by kernel_rfl) a r (Eq.trans (by kernel_rfl) h)⟩
def t_coresecref39_bit : Tab Tryd.prog := ⟨tes, ses, fes, bes, [], [], fds, [], qes, ges, mes, []⟩
def h_coresecref39_bit : Hint := (.s .n (.s .n .n))

def con_coresecref39_bit : Con Tryd.prog := ⟨37, [.d P_api_Permit, .d (.int .i64)], [.d .bool], ⟨Tryd.f37, Tryd.func37, by kernel_rfl, by kernel_rfl⟩, m_coresecref39_bit, fun a r h => mkM_ok (T := t_coresecref39_bit) (N := 13) (own := []) (rng := []) (c := (codeOf Tryd.f37)) (h := h_coresecref39_bit) (qs := [.tmp 4]) kMix Tryd.func37 (by kernel_rfl) (by kernel_rfl) (by kernel_rfl) (by kernel_rfl) a r (Eq.trans (by kernel_rfl) h)⟩
def t_coresecref39_under : Tab Tryd.prog := ⟨tes, ses, fes, bes, [], [], fds, [], qes, ges, mes, []⟩
def h_coresecref39_under : Hint := (.s .n (.j ⟨[.d 4 .bool], []⟩ false .n .n))

def con_coresecref39_under : Con Tryd.prog := ⟨38, [.d .str, .d .str], [.d .bool], ⟨Tryd.f38, Tryd.func38, by kernel_rfl, by kernel_rfl⟩, m_coresecref39_under, fun a r h => mkM_ok (T := t_coresecref39_under) (N := 25) (own := []) (rng := []) (c := (codeOf Tryd.f38)) (h := h_coresecref39_under) (qs := [.tmp 4]) kMix Tryd.func38 (by kernel_rfl) (by kernel_rfl) (by kernel_rfl) (by kernel_rfl) a r (Eq.trans (by kernel_rfl) h)⟩
def t_coresecref39_before : Tab Tryd.prog := ⟨tes, ses, fes, bes, [], [], fds, [], qes, ges, mes, []⟩
def h_coresecref39_before : Hint := (.s .n (.j ⟨[.d 4 .bool], []⟩ false .n .n))

def con_coresecref39_before : Con Tryd.prog := ⟨61, [.d P_api_Permit, .d P_api_Permit], [.d .bool], ⟨Tryd.f61, Tryd.func61, by kernel_rfl, by kernel_rfl⟩, m_coresecref39_before, fun a r h => mkM_ok (T := t_coresecref39_before) (N := 26) (own := []) (rng := []) (c := (codeOf Tryd.f61)) (h := h_coresecref39_before) (qs := [.tmp 4]) kMix Tryd.func61 (by kernel_rfl) (by kernel_rfl) (by kernel_rfl) (by kernel_rfl) a r (Eq.trans (by kernel_rfl) h)⟩
def t_coresecref39_normal : Tab Tryd.prog := ⟨tes, ses, fes, bes, [con_coresecref39_bit, con_coresecref39_under, con_coresecref39_before], [], fds, [], qes, ges, mes, []⟩
def h_coresecref39_normal : Hint := (.s .n (.s .n (.s (.s .n (.b (.l (.a 16 15) ⟨[.o 3 49 P_api_Permit], [0, 14, 15]⟩ (.s .n (.s (.c .n .n) (.j ⟨[.o 3 49 P_api_Permit], [0, 14, 15, 16]⟩ false (.b (.s .n (.s .n (.s (.s .n (.b (.l .g ⟨[.d 7 (.int .i64), .b 6 49 P_api_Permit], [0, 3, 5, 6, 14, 15, 16]⟩ (.s (.s .n (.c .n .n)) (.j ⟨[.b 6 49 P_api_Permit], [0, 3, 5, 6, 7, 14, 15, 16]⟩ false (.b (.s .n (.s (.s .n (.b (.l (.a 31 30) ⟨[.d 8 .bool, .d 9 .bool], [0, 3, 5, 6, 7, 14, 15, 16, 29, 30]⟩ (.s .n (.s (.c .n .n) (.j ⟨[.d 8 .bool, .d 9 .bool], [0, 3, 5, 6, 7, 14, 15, 16, 29, 30, 31]⟩ false (.b (.s .n (.s (.s .n (.c .n .n)) (.j ⟨[.d 8 .bool], [0, 3, 5, 6, 7, 9, 11, 14, 15, 16, 29, 30, 31]⟩ false .n .n)))) .n)))))) (.j ⟨[.d 83 .bool], [0, 3, 5, 6, 7, 14, 15, 16]⟩ false .n (.c .n .n))))) .n))))) (.s (.s .n (.c .n .n)) (.s .n (.j ⟨[.d 12 (.int .i64)], [0, 3, 6, 14, 15, 16]⟩ false (.b (.l .g ⟨[.d 12 (.int .i64)], [0, 3, 6, 14, 15, 16]⟩ (.s (.j ⟨[.d 106 .bool], [0, 3, 6, 12, 14, 15, 16]⟩ false .n (.c .n .n)) (.b .n)))) (.s (.j ⟨[.d 120 .bool], [0, 3, 6, 12, 14, 15, 16]⟩ false .n (.c .n .n)) (.s .n .n))))))))) .n)))))) (.s .n .n))))

def con_coresecref39_normal : Con Tryd.prog := ⟨45, [.d (.sl P_api_Permit)], [.d (.sl P_api_Permit)], ⟨Tryd.f45, Tryd.func45, by kernel_rfl, by kernel_rfl⟩, m_coresecref39_normal, fun a r h => mkM_ok (T := t_coresecref39_normal) (N := 135) (own := [130, 132]) (rng := [15, 30]) (c := (codeOf Tryd.f45)) (h := h_coresecref39_normal) (qs := [.tmp 2]) kMix Tryd.func45 (by kernel_rfl) (by kernel_rfl) (by kernel_rfl) (by kernel_rfl) a r (Eq.trans (by kernel_rfl) h)⟩
def t_coresecref39_Normal : Tab Tryd.prog := ⟨tes, ses, fes, bes, [con_coresecref39_Valid, con_coresecref39_normal], [], fds, [], qes, ges, mes, []⟩
def h_coresecref39_Normal : Hint := (.s .n (.s (.s .n (.c (.s .n .n) .n)) (.s .n .n)))

def con_coresecref39_Normal : Con Tryd.prog := ⟨26, [.d (.sl P_api_Permit)], [.d (.sl P_api_Permit)], ⟨Tryd.f26, Tryd.func26, by kernel_rfl, by kernel_rfl⟩, m_coresecref39_Normal, fun a r h => mkM_ok (T := t_coresecref39_Normal) (N := 8) (own := []) (rng := []) (c := (codeOf Tryd.f26)) (h := h_coresecref39_Normal) (qs := [.tmp 2]) kMix Tryd.func26 (by kernel_rfl) (by kernel_rfl) (by kernel_rfl) (by kernel_rfl) a r (Eq.trans (by kernel_rfl) h)⟩
def t_coresecref39_both : Tab Tryd.prog := ⟨tes, ses, fes, bes, [con_coresecref39_under], [], fds, [], qes, ges, mes, []⟩
def h_coresecref39_both : Hint := (.s .n (.s .n (.s (.s .n (.c (.s .n .n) .n)) (.s (.b (.s .n (.c (.j ⟨[.d 5 .bool, .b 4 49 P_api_Permit], [4]⟩ false .n .n) (.j ⟨[.d 31 .bool], [2, 3, 4, 6]⟩ false .n (.c (.s .n .n) (.j ⟨[.d 47 .bool], [3, 4, 6]⟩ false .n (.c (.s .n .n) .n))))))) (.s .n .n)))))

def con_coresecref39_both : Con Tryd.prog := ⟨47, [.d P_api_Permit, .d P_api_Permit], [.d P_api_Permit, .d .bool], ⟨Tryd.f47, Tryd.func47, by kernel_rfl, by kernel_rfl⟩, m_coresecref39_both, fun a r h => mkM_ok (T := t_coresecref39_both) (N := 64) (own := []) (rng := []) (c := (codeOf Tryd.f47)) (h := h_coresecref39_both) (qs := [.cell 4 49, .tmp 5]) kMix Tryd.func47 (by kernel_rfl) (by kernel_rfl) (by kernel_rfl) (by kernel_rfl) a r (Eq.trans (by kernel_rfl) h)⟩
def t_coresecref39_limited : Tab Tryd.prog := ⟨tes, ses, fes, bes, [con_coresecref39_normal], [], fds, [], qes, ges, mes, []⟩
def h_coresecref39_limited : Hint := (.s .n (.s .n (.s (.s .n (.c (.s .n .n) .n)) (.s .n .n))))

def con_coresecref39_limited : Con Tryd.prog := ⟨48, [.d (.sl P_api_Permit)], [.d (.sl P_api_Permit), .d (.int .i64)], ⟨Tryd.f48, Tryd.func48, by kernel_rfl, by kernel_rfl⟩, m_coresecref39_limited, fun a r h => mkM_ok (T := t_coresecref39_limited) (N := 11) (own := []) (rng := []) (c := (codeOf Tryd.f48)) (h := h_coresecref39_limited) (qs := [.tmp 2, .tmp 3]) kMix Tryd.func48 (by kernel_rfl) (by kernel_rfl) (by kernel_rfl) (by kernel_rfl) a r (Eq.trans (by kernel_rfl) h)⟩
def t_coresecref39_Meet : Tab Tryd.prog := ⟨tes, ses, fes, bes, [con_coresecref39_Valid, con_coresecref39_both, con_coresecref39_limited], [], fds, [], qes, ges, mes, []⟩
def h_coresecref39_Meet : Hint := (.s .n (.s (.j ⟨[.d 20 .bool], [0, 1]⟩ false .n (.c (.s .n .n) .n)) (.s .n (.s (.s .n (.b (.l (.a 23 22) ⟨[.o 6 49 P_api_Permit], [1, 21, 22]⟩ (.s .n (.s (.c .n .n) (.s (.b (.s .n (.s .n (.b (.l (.a 29 28) ⟨[.o 6 49 P_api_Permit], [1, 8, 21, 22, 23, 27, 28]⟩ (.s .n (.s (.c .n .n) (.j ⟨[.o 6 49 P_api_Permit], [1, 8, 21, 22, 23, 27, 28, 29]⟩ false (.b (.s .n (.s .n (.s .n (.c .n .n))))) .n)))))))) .n)))))) (.s .n .n)))))

def con_coresecref39_Meet : Con Tryd.prog := ⟨28, [.d (.sl P_api_Permit), .d (.sl P_api_Permit)], [.d (.sl P_api_Permit), .d (.int .i64)], ⟨Tryd.f28, Tryd.func28, by kernel_rfl, by kernel_rfl⟩, m_coresecref39_Meet, fun a r h => mkM_ok (T := t_coresecref39_Meet) (N := 50) (own := [43]) (rng := [22, 28]) (c := (codeOf Tryd.f28)) (h := h_coresecref39_Meet) (qs := [.tmp 4, .tmp 5]) kMix Tryd.func28 (by kernel_rfl) (by kernel_rfl) (by kernel_rfl) (by kernel_rfl) a r (Eq.trans (by kernel_rfl) h)⟩
def t_coresecref39_Join : Tab Tryd.prog := ⟨tes, ses, fes, bes, [con_coresecref39_Valid, con_coresecref39_limited], [], fds, [], qes, ges, mes, []⟩
def h_coresecref39_Join : Hint := (.s .n (.s (.j ⟨[.d 13 .bool], [0, 1]⟩ false .n (.c (.s .n .n) .n)) (.s .n .n)))

def con_coresecref39_Join : Con Tryd.prog := ⟨30, [.d (.sl P_api_Permit), .d (.sl P_api_Permit)], [.d (.sl P_api_Permit), .d (.int .i64)], ⟨Tryd.f30, Tryd.func30, by kernel_rfl, by kernel_rfl⟩, m_coresecref39_Join, fun a r h => mkM_ok (T := t_coresecref39_Join) (N := 21) (own := [15]) (rng := []) (c := (codeOf Tryd.f30)) (h := h_coresecref39_Join) (qs := [.tmp 4, .tmp 5]) kMix Tryd.func30 (by kernel_rfl) (by kernel_rfl) (by kernel_rfl) (by kernel_rfl) a r (Eq.trans (by kernel_rfl) h)⟩
def t_coresecref39_whole : Tab Tryd.prog := ⟨tes, ses, fes, bes, [con_coresecref39_bit, con_coresecref39_under], [], fds, [], qes, ges, mes, []⟩
def h_coresecref39_whole : Hint := (.s .n (.s (.s .n (.b (.l (.a 11 10) ⟨[], [1, 2, 9, 10]⟩ (.s .n (.s (.c .n .n) (.s (.b (.s .n (.j ⟨[.d 33 .bool], [1, 2, 9, 10, 11]⟩ false .n (.c (.s .n .n) .n)))) .n)))))) (.s .n .n)))

def con_coresecref39_whole : Con Tryd.prog := ⟨49, [.d (.sl P_api_Permit), .d .str, .d (.int .i64)], [.d .bool], ⟨Tryd.f49, Tryd.func49, by kernel_rfl, by kernel_rfl⟩, m_coresecref39_whole, fun a r h => mkM_ok (T := t_coresecref39_whole) (N := 35) (own := []) (rng := [10]) (c := (codeOf Tryd.f49)) (h := h_coresecref39_whole) (qs := [.tmp 6]) kMix Tryd.func49 (by kernel_rfl) (by kernel_rfl) (by kernel_rfl) (by kernel_rfl) a r (Eq.trans (by kernel_rfl) h)⟩
def t_coresecref39_Permits : Tab Tryd.prog := ⟨tes, ses, fes, bes, [con_coresecref39_Valid, con_coresecref39_bit, con_coresecref39_under], [], fds, [], qes, ges, mes, []⟩
def h_coresecref39_Permits : Hint := (.s .n (.s (.j ⟨[.d 19 .bool], [0, 1, 2]⟩ false .n (.c (.s .n .n) .n)) (.s (.s .n (.b (.l (.a 22 21) ⟨[], [1, 2, 20, 21]⟩ (.s .n (.s (.c .n .n) (.s (.b (.s .n (.j ⟨[.d 44 .bool], [1, 2, 20, 21, 22]⟩ false .n (.c (.s .n .n) .n)))) .n)))))) (.s .n .n))))

def con_coresecref39_Permits : Con Tryd.prog := ⟨17, [.d (.sl P_api_Permit), .d .str, .d (.int .i64)], [.d .bool], ⟨Tryd.f17, Tryd.func17, by kernel_rfl, by kernel_rfl⟩, m_coresecref39_Permits, fun a r h => mkM_ok (T := t_coresecref39_Permits) (N := 46) (own := []) (rng := [21]) (c := (codeOf Tryd.f17)) (h := h_coresecref39_Permits) (qs := [.tmp 6]) kMix Tryd.func17 (by kernel_rfl) (by kernel_rfl) (by kernel_rfl) (by kernel_rfl) a r (Eq.trans (by kernel_rfl) h)⟩
end
end Go.Proofs.YtmnbkcpopfmpdaaDoor
