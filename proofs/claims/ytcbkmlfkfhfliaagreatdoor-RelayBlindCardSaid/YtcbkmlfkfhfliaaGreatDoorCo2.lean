/-
  The functions compute their models: what the evaluator gives is the model, by the kernel. No condition.
-/
import Derived.Test.YtcbkmlfkfhfliaaGreatDoorCo1
namespace Go.Proofs.YtcbkmlfkfhfliaaGreatDoor
open Go.Gk Go.RowKit
noncomputable section
set_option maxRecDepth 100000
def t_coreseclaw34_worked : Tab Tryz.prog := ⟨tes, ses, fes, bes, [con_coresecmake_Deck_Next, con_coreseclaw34_request, con_coresecref34_Forward, con_coreseclaw34_answer, con_coresecref34_Return], [], fds, [], qes, ges, mes, []⟩
def h_coreseclaw34_worked : Hint := (.s .n (.s .n (.s (.s .n (.b (.l .g ⟨[.d 5 (.int .i64), .d 6 (.int .i64), .b 0 77 P_coresecmake_Deck, .b 4 25 P_api_Proxy], [0, 2, 4]⟩ (.s (.s .n (.c .n .n)) (.j ⟨[.d 5 (.int .i64), .b 0 77 P_coresecmake_Deck, .b 4 25 P_api_Proxy], [0, 2, 4, 6]⟩ false (.b (.s .n (.s (.j ⟨[.d 34 .bool, .b 0 77 P_coresecmake_Deck], [0, 2, 4, 5, 6]⟩ false .n (.c (.s .n .n) .n)) .n))) .n))))) (.s .n .n))))

def con_coreseclaw34_worked : Con Tryz.prog := ⟨10, [.p 77 P_coresecmake_Deck], [.d P_api_Proxy, .d (.int .i64)], ⟨Tryz.f10, Tryz.func10, by kernel_rfl, by kernel_rfl⟩, m_coreseclaw34_worked, fun a r h => mkM_ok (T := t_coreseclaw34_worked) (N := 59) (own := []) (rng := []) (c := (codeOf Tryz.f10)) (h := h_coreseclaw34_worked) (qs := [.cell 2 25, .tmp 3]) kMix Tryz.func10 (by kernel_rfl) (by kernel_rfl) (by kernel_rfl) (by kernel_rfl) a r (Eq.trans (by kernel_rfl) h)⟩
def t_relay_Drop : Tab Tryz.prog := ⟨tes, ses, fes, bes, [con_relay_cloned], [10, 28], fds, [], qes, ges, mes, []⟩
def h_relay_Drop : Hint := (.s .n (.s .n (.s .n (.s (.s .n (.b (.l (.a 15 14) ⟨[.h 5 25 P_api_Proxy 1 69 P_api_Hop], [1, 4, 5, 13, 14]⟩ (.s .n (.s (.c .n .n) (.j ⟨[.h 5 25 P_api_Proxy 1 69 P_api_Hop], [1, 4, 5, 13, 14, 15]⟩ false (.b (.s .n (.s .n (.c .n .n)))) .n)))))) (.s .n .n)))))

def con_relay_Drop : Con Tryz.prog := ⟨16, [.d P_api_Proxy, .d (.int .i64)], [.d P_api_Proxy], ⟨Tryz.f16, Tryz.func16, by kernel_rfl, by kernel_rfl⟩, m_relay_Drop, fun a r h => mkM_ok (T := t_relay_Drop) (N := 31) (own := [27]) (rng := [14]) (c := (codeOf Tryz.f16)) (h := h_relay_Drop) (qs := [.cell 4 25]) kMix Tryz.func16 (by kernel_rfl) (by kernel_rfl) (by kernel_rfl) (by kernel_rfl) a r (Eq.trans (by kernel_rfl) h)⟩
def t_coresecref34_Drop : Tab Tryz.prog := ⟨tes, ses, fes, bes, [con_coresecref34_Copy], [10, 27], fds, [], qes, ges, mes, []⟩
def h_coresecref34_Drop : Hint := (.s .n (.s .n (.s .n (.s (.s .n (.b (.l (.a 14 13) ⟨[.h 5 25 P_api_Proxy 1 69 P_api_Hop], [1, 4, 5, 12, 13]⟩ (.s .n (.s (.c .n .n) (.j ⟨[.h 5 25 P_api_Proxy 1 69 P_api_Hop], [1, 4, 5, 12, 13, 14]⟩ false (.b (.s .n (.s .n (.c .n .n)))) .n)))))) (.s .n .n)))))

def con_coresecref34_Drop : Con Tryz.prog := ⟨18, [.d P_api_Proxy, .d (.int .i64)], [.d P_api_Proxy], ⟨Tryz.f18, Tryz.func18, by kernel_rfl, by kernel_rfl⟩, m_coresecref34_Drop, fun a r h => mkM_ok (T := t_coresecref34_Drop) (N := 30) (own := [26]) (rng := [13]) (c := (codeOf Tryz.f18)) (h := h_coresecref34_Drop) (qs := [.cell 4 25]) kMix Tryz.func18 (by kernel_rfl) (by kernel_rfl) (by kernel_rfl) (by kernel_rfl) a r (Eq.trans (by kernel_rfl) h)⟩
def t_coresecref15_Same : Tab Tryz.prog := ⟨tes, ses, fes, bes, [], [], fds, [], qes, ges, mes, []⟩
def h_coresecref15_Same : Hint := (.s .n (.s (.j ⟨[.d 52 .bool], [2, 3]⟩ false .n (.c (.s .n .n) .n)) (.s (.s .n (.b (.l (.a 56 55) ⟨[], [3, 54, 55]⟩ (.s .n (.s (.c .n .n) (.s (.b (.s .n (.j ⟨[.d 82 .bool], [3, 54, 55, 56]⟩ false .n (.c (.s .n .n) .n)))) .n)))))) (.s .n .n))))

def con_coresecref15_Same : Con Tryz.prog := ⟨60, [.d P_api_Message, .d P_api_Message], [.d .bool], ⟨Tryz.f60, Tryz.func60, by kernel_rfl, by kernel_rfl⟩, m_coresecref15_Same, fun a r h => mkM_ok (T := t_coresecref15_Same) (N := 84) (own := []) (rng := [55]) (c := (codeOf Tryz.f60)) (h := h_coresecref15_Same) (qs := [.tmp 4]) kMix Tryz.func60 (by kernel_rfl) (by kernel_rfl) (by kernel_rfl) (by kernel_rfl) a r (Eq.trans (by kernel_rfl) h)⟩
def t_coresecref20_Same : Tab Tryz.prog := ⟨tes, ses, fes, bes, [con_coresecref15_Same], [], fds, [], qes, ges, mes, []⟩
def h_coresecref20_Same : Hint := (.s .n (.s (.s .n (.c (.s .n .n) .n)) (.s (.s .n (.b (.l (.a 14 13) ⟨[], [1, 12, 13]⟩ (.s .n (.s (.c .n .n) (.s (.b (.s .n (.j ⟨[.d 59 .bool], [1, 12, 13, 14]⟩ false .n (.c (.s .n .n) .n)))) .n)))))) (.s .n .n))))

def con_coresecref20_Same : Con Tryz.prog := ⟨38, [.d (.sl P_api_Cached), .d (.sl P_api_Cached)], [.d .bool], ⟨Tryz.f38, Tryz.func38, by kernel_rfl, by kernel_rfl⟩, m_coresecref20_Same, fun a r h => mkM_ok (T := t_coresecref20_Same) (N := 61) (own := []) (rng := [13]) (c := (codeOf Tryz.f38)) (h := h_coresecref20_Same) (qs := [.tmp 4]) kMix Tryz.func38 (by kernel_rfl) (by kernel_rfl) (by kernel_rfl) (by kernel_rfl) a r (Eq.trans (by kernel_rfl) h)⟩
def t_coresecref34_Same : Tab Tryz.prog := ⟨tes, ses, fes, bes, [con_coresecref20_Same, con_coresecref26_Equal], [], fds, [], qes, ges, mes, []⟩
def h_coresecref34_Same : Hint := (.s .n (.s (.j ⟨[.d 36 .bool], [2, 3]⟩ false .n (.c (.s .n .n) .n)) (.s (.s .n (.b (.l (.a 40 39) ⟨[], [3, 38, 39]⟩ (.s .n (.s (.c .n .n) (.s (.b (.s .n (.s .n (.j ⟨[.d 85 .bool], [3, 38, 39, 40]⟩ false .n (.c (.s .n .n) .n))))) .n)))))) (.s .n .n))))

def con_coresecref34_Same : Con Tryz.prog := ⟨15, [.d P_api_Proxy, .d P_api_Proxy], [.d .bool], ⟨Tryz.f15, Tryz.func15, by kernel_rfl, by kernel_rfl⟩, m_coresecref34_Same, fun a r h => mkM_ok (T := t_coresecref34_Same) (N := 87) (own := []) (rng := [39]) (c := (codeOf Tryz.f15)) (h := h_coresecref34_Same) (qs := [.tmp 4]) kMix Tryz.func15 (by kernel_rfl) (by kernel_rfl) (by kernel_rfl) (by kernel_rfl) a r (Eq.trans (by kernel_rfl) h)⟩
def t_coreseclaw34_sameList : Tab Tryz.prog := ⟨tes, ses, fes, bes, [con_coresecref15_Same], [], fds, [], qes, ges, mes, []⟩
def h_coreseclaw34_sameList : Hint := (.s .n (.s (.s .n (.c (.s .n .n) .n)) (.s (.s .n (.b (.l (.n 13 12) ⟨[], [0, 1, 12]⟩ (.s .n (.s (.c .n .n) (.s (.b (.s .n (.s .n (.c (.s .n .n) .n)))) .n)))))) (.s .n .n))))

def con_coreseclaw34_sameList : Con Tryz.prog := ⟨22, [.d (.sl P_api_Message), .d (.sl P_api_Message)], [.d .bool], ⟨Tryz.f22, Tryz.func22, by kernel_rfl, by kernel_rfl⟩, m_coreseclaw34_sameList, fun a r h => mkM_ok (T := t_coreseclaw34_sameList) (N := 27) (own := []) (rng := []) (c := (codeOf Tryz.f22)) (h := h_coreseclaw34_sameList) (qs := [.tmp 4]) kMix Tryz.func22 (by kernel_rfl) (by kernel_rfl) (by kernel_rfl) (by kernel_rfl) a r (Eq.trans (by kernel_rfl) h)⟩
def t_coreseclaw34_sameSent : Tab Tryz.prog := ⟨tes, ses, fes, bes, [con_coresecref15_Same], [], fds, [], qes, ges, mes, []⟩
def h_coreseclaw34_sameSent : Hint := (.s .n (.s (.s .n (.c (.s .n .n) .n)) (.s (.s .n (.b (.l (.n 13 12) ⟨[], [0, 1, 12]⟩ (.s .n (.s (.c .n .n) (.s (.b (.s .n (.j ⟨[.d 40 .bool], [0, 1, 12, 13]⟩ false .n (.c (.s .n .n) .n)))) .n)))))) (.s .n .n))))

def con_coreseclaw34_sameSent : Con Tryz.prog := ⟨23, [.d (.sl P_relay_Sent), .d (.sl P_coresecref34_Sent)], [.d .bool], ⟨Tryz.f23, Tryz.func23, by kernel_rfl, by kernel_rfl⟩, m_coreseclaw34_sameSent, fun a r h => mkM_ok (T := t_coreseclaw34_sameSent) (N := 42) (own := []) (rng := []) (c := (codeOf Tryz.f23)) (h := h_coreseclaw34_sameSent) (qs := [.tmp 4]) kMix Tryz.func23 (by kernel_rfl) (by kernel_rfl) (by kernel_rfl) (by kernel_rfl) a r (Eq.trans (by kernel_rfl) h)⟩
end
end Go.Proofs.YtcbkmlfkfhfliaaGreatDoor
