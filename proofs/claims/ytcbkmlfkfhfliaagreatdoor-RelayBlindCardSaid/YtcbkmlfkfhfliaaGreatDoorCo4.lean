/-
  The functions compute their models: what the evaluator gives is the model, by the kernel. No condition.
-/
import Derived.Test.YtcbkmlfkfhfliaaGreatDoorCo3
namespace Go.Proofs.YtcbkmlfkfhfliaaGreatDoor
open Go.Gk Go.RowKit
noncomputable section
set_option maxRecDepth 100000
def t_coreseclaw34_RelayReturns : Tab Tryz.prog := ⟨tes, ses, fes, bes, [con_coreseclaw34_light, con_coresecmake2_Message, con_coreseclaw34_awake, con_coresecmake_New, con_coreseclaw34_worked, con_coreseclaw34_answer, con_relay_Return, con_coresecref34_Return, con_coresecref34_Same, con_coreseclaw34_sameSent], [], fds, [], qes, ges, mes, []⟩
def h_coreseclaw34_RelayReturns : Hint := (.s .n (.s (.j ⟨[.d 31 .bool], [2, 3, 4, 5]⟩ false .n (.c (.s .n .n) .n)) (.s .n (.s .n (.s (.s .n (.b (.l (.a 44 43) ⟨[.b 9 77 P_coresecmake_Deck], [3, 5, 9, 10, 11, 42, 43]⟩ (.s .n (.s (.c .n .n) (.s (.b (.s .n (.s .n (.b (.l (.n 57 56) ⟨[], [3, 5, 9, 10, 11, 13, 42, 43, 44, 55, 56]⟩ (.s .n (.s (.c .n .n) (.s (.b (.s .n (.s .n (.b (.l (.a 65 64) ⟨[], [3, 5, 9, 10, 11, 13, 15, 42, 43, 44, 55, 56, 57, 63, 64]⟩ (.s .n (.s (.c .n .n) (.s (.b (.s .n (.s .n (.s .n (.j ⟨[.d 99 .bool], [3, 5, 9, 10, 11, 13, 15, 42, 43, 44, 55, 56, 57, 63, 64, 65]⟩ false .n (.c (.s .n .n) .n)))))) .n)))))))) .n)))))))) .n)))))) (.s .n .n))))))

def con_coreseclaw34_RelayReturns : Con Tryz.prog := ⟨4, [.d P_api_Proxy, .d P_api_Message, .d (.sl (.int .i64)), .d (.int .i64)], [.d .bool], ⟨Tryz.f4, Tryz.func4, by kernel_rfl, by kernel_rfl⟩, m_coreseclaw34_RelayReturns, fun a r h => mkM_ok (T := t_coreseclaw34_RelayReturns) (N := 104) (own := []) (rng := [43, 64]) (c := (codeOf Tryz.f4)) (h := h_coreseclaw34_RelayReturns) (qs := [.tmp 8]) kMix Tryz.func4 (by kernel_rfl) (by kernel_rfl) (by kernel_rfl) (by kernel_rfl) a r (Eq.trans (by kernel_rfl) h)⟩
end
end Go.Proofs.YtcbkmlfkfhfliaaGreatDoor
