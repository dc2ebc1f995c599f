/-
  The functions compute their models: what the evaluator gives is the model, by the kernel. No condition.
-/
import Derived.Test.YtcbkmlfkfhfliaaGreatDoorCo4
namespace Go.Proofs.YtcbkmlfkfhfliaaGreatDoor
open Go.Gk Go.RowKit
noncomputable section
set_option maxRecDepth 100000
def t_coreseclaw34_RelayBlind : Tab Tryz.prog := ⟨tes, ses, fes, bes, [con_coresecmake_New, con_coreseclaw34_worked, con_coresecref34_Valid, con_coreseclaw34_awake, con_coresecmake_Mod, con_coreseclaw34_request, con_coresecref16_Set, con_relay_Forward, con_coresecmake_Deck_Response, con_relay_Return, con_coresecref26_Equal], [], fds, [], qes, ges, mes, []⟩
def h_coreseclaw34_RelayBlind : Hint := (.s .n (.s .n (.s .n (.s (.s .n (.c (.s .n .n) .n)) (.s .n (.s .n (.s .n (.s .n (.s (.s .n (.c (.s .n .n) .n)) (.s (.s .n (.c (.j ⟨[.d 4 .bool], []⟩ false .n .n) .n)) (.s (.s .n (.c (.s .n .n) .n)) (.s .n (.s (.s .n (.b (.l (.a 85 84) ⟨[.o 14 5 (.int .u8)], [5, 7, 8, 9, 10, 11, 83, 84]⟩ (.s .n (.s (.c .n .n) (.s (.b (.s .n .n)) .n)))))) (.s .n (.s .n (.s .n (.j ⟨[.d 4 .bool], []⟩ false .n .n)))))))))))))))))

def con_coreseclaw34_RelayBlind : Con Tryz.prog := ⟨5, [.d (.sl (.int .i64)), .d (.int .i64)], [.d .bool], ⟨Tryz.f5, Tryz.func5, by kernel_rfl, by kernel_rfl⟩, m_coreseclaw34_RelayBlind, fun a r h => mkM_ok (T := t_coreseclaw34_RelayBlind) (N := 129) (own := [92]) (rng := [84]) (c := (codeOf Tryz.f5)) (h := h_coreseclaw34_RelayBlind) (qs := [.tmp 4]) kMix Tryz.func5 (by kernel_rfl) (by kernel_rfl) (by kernel_rfl) (by kernel_rfl) a r (Eq.trans (by kernel_rfl) h)⟩
end
end Go.Proofs.YtcbkmlfkfhfliaaGreatDoor
