/-
  The functions compute their models: what the evaluator gives is the model, by the kernel. No condition.
-/
import Derived.Test.YtmnbkcpopfmpdaaDoorCo
namespace Go.Proofs.YtmnbkcpopfmpdaaDoor
open Go.Gk Go.RowKit
noncomputable section
set_option maxRecDepth 100000
def t_coreseclaw39_ScopeOrder : Tab Tryd.prog := ⟨tes, ses, fes, bes, [con_coreseclaw39_awake, con_coresecmake_New, con_coresecmake2_Scope, con_scope_Within, con_scope_Normal, con_coresecref39_Same, con_coreseclaw39_paths, con_scope_Permits], [], fds, [], qes, ges, mes, []⟩
def h_coreseclaw39_ScopeOrder : Hint := (.s .n (.s (.s .n (.c (.s .n .n) .n)) (.s .n (.s .n (.s (.j ⟨[.d 72 .bool], [3, 9, 10, 12]⟩ false .n (.c (.s .n .n) .n)) (.s .n (.j ⟨[.d 16 .bool], [12]⟩ true (.s .n (.b (.l (.a 76 75) ⟨[.d 16 .bool], [9, 10, 12, 74, 75]⟩ (.s .n (.s (.c .n .n) (.j ⟨[.d 16 .bool], [9, 10, 12, 74, 75, 76]⟩ true (.b (.s .n (.s .n (.b (.l .g ⟨[.d 16 .bool, .d 19 (.int .i64)], [9, 10, 12, 18, 74, 75, 76]⟩ (.s (.s .n (.c .n .n)) (.s (.b (.s .n (.s (.j ⟨[.d 99 .bool], [9, 10, 12, 16, 18, 19, 20, 21, 74, 75, 76]⟩ false .n (.c (.s .n .n) .n)) .n))) .n))))))) .n)))))) (.j ⟨[.d 8 .bool], []⟩ false .n .n))))))))

def con_coreseclaw39_ScopeOrder : Con Tryd.prog := ⟨5, [.d (.sl (.int .i64)), .d (.sl (.int .i64)), .d (.sl (.int .i64)), .d .str], [.d .bool], ⟨Tryd.f5, Tryd.func5, by kernel_rfl, by kernel_rfl⟩, m_coreseclaw39_ScopeOrder, fun a r h => mkM_ok (T := t_coreseclaw39_ScopeOrder) (N := 115) (own := []) (rng := [75]) (c := (codeOf Tryd.f5)) (h := h_coreseclaw39_ScopeOrder) (qs := [.tmp 8]) kMix Tryd.func5 (by kernel_rfl) (by kernel_rfl) (by kernel_rfl) (by kernel_rfl) a r (Eq.trans (by kernel_rfl) h)⟩
def t_scope_limited : Tab Tryd.prog := ⟨tes, ses, fes, bes, [con_scope_normal], [], fds, [], qes, ges, mes, []⟩
def h_scope_limited : Hint := (.s .n (.s .n (.s (.s .n (.c (.s .n .n) .n)) (.s .n .n))))

def con_scope_limited : Con Tryd.prog := ⟨46, [.d (.sl P_api_Permit)], [.d (.sl P_api_Permit), .d (.int .i64)], ⟨Tryd.f46, Tryd.func46, by kernel_rfl, by kernel_rfl⟩, m_scope_limited, fun a r h => mkM_ok (T := t_scope_limited) (N := 10) (own := []) (rng := []) (c := (codeOf Tryd.f46)) (h := h_scope_limited) (qs := [.tmp 2, .tmp 3]) kMix Tryd.func46 (by kernel_rfl) (by kernel_rfl) (by kernel_rfl) (by kernel_rfl) a r (Eq.trans (by kernel_rfl) h)⟩
def t_scope_Meet : Tab Tryd.prog := ⟨tes, ses, fes, bes, [con_scope_Valid, con_scope_includes, con_scope_limited], [], fds, [], qes, ges, mes, []⟩
def h_scope_Meet : Hint := (.s .n (.s (.j ⟨[.d 19 .bool], [0, 1]⟩ false .n (.c (.s .n .n) .n)) (.s .n (.s (.s .n (.b (.l (.a 22 21) ⟨[.o 6 49 P_api_Permit], [1, 20, 21]⟩ (.s .n (.s (.c .n .n) (.s (.b (.s .n (.s .n (.b (.l (.a 28 27) ⟨[.o 6 49 P_api_Permit], [1, 8, 20, 21, 22, 26, 27]⟩ (.s .n (.s (.c .n .n) (.j ⟨[.o 6 49 P_api_Permit], [1, 8, 20, 21, 22, 26, 27, 28]⟩ false (.b (.s .n (.s .n (.j ⟨[.b 11 49 P_api_Permit], [1, 6, 8, 10, 11, 20, 21, 22, 26, 27, 28]⟩ true (.s .n (.c (.s .n (.s .n (.c .n .n))) .n)) (.s .n (.s .n (.c .n .n))))))) .n)))))))) .n)))))) (.s .n .n)))))

def con_scope_Meet : Con Tryd.prog := ⟨27, [.d (.sl P_api_Permit), .d (.sl P_api_Permit)], [.d (.sl P_api_Permit), .d (.int .i64)], ⟨Tryd.f27, Tryd.func27, by kernel_rfl, by kernel_rfl⟩, m_scope_Meet, fun a r h => mkM_ok (T := t_scope_Meet) (N := 61) (own := [54]) (rng := [21, 27]) (c := (codeOf Tryd.f27)) (h := h_scope_Meet) (qs := [.tmp 4, .tmp 5]) kMix Tryd.func27 (by kernel_rfl) (by kernel_rfl) (by kernel_rfl) (by kernel_rfl) a r (Eq.trans (by kernel_rfl) h)⟩
def t_scope_Join : Tab Tryd.prog := ⟨tes, ses, fes, bes, [con_scope_Valid, con_scope_limited], [], fds, [], qes, ges, mes, []⟩
def h_scope_Join : Hint := (.s .n (.s (.j ⟨[.d 13 .bool], [0, 1]⟩ false .n (.c (.s .n .n) .n)) (.s .n .n)))

def con_scope_Join : Con Tryd.prog := ⟨29, [.d (.sl P_api_Permit), .d (.sl P_api_Permit)], [.d (.sl P_api_Permit), .d (.int .i64)], ⟨Tryd.f29, Tryd.func29, by kernel_rfl, by kernel_rfl⟩, m_scope_Join, fun a r h => mkM_ok (T := t_scope_Join) (N := 21) (own := [15]) (rng := []) (c := (codeOf Tryd.f29)) (h := h_scope_Join) (qs := [.tmp 4, .tmp 5]) kMix Tryd.func29 (by kernel_rfl) (by kernel_rfl) (by kernel_rfl) (by kernel_rfl) a r (Eq.trans (by kernel_rfl) h)⟩
end
end Go.Proofs.YtmnbkcpopfmpdaaDoor
