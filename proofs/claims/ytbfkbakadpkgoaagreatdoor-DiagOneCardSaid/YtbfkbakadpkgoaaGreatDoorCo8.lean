/-
  The functions compute their models: what the evaluator gives is the model, by the kernel. No condition.
-/
import Derived.Test.YtbfkbakadpkgoaaGreatDoorCo7
namespace Go.Proofs.YtbfkbakadpkgoaaGreatDoor
open Go.Gk Go.RowKit
noncomputable section
set_option maxRecDepth 100000
def t_coreseclaw03_DiagOne : Tab Tryz.prog := ⟨tes, ses, fes, bes, [con_coreseclaw03_awake, con_coresecmake_New, con_coresecmake_Deck_Item, con_coresecref03_Print, con_coresecmake_Spoilt, con_diag_Parse, con_diag_Print], [], fds, [], qes, ges, mes, [], xes⟩
def h_coreseclaw03_DiagOne : Hint := (.s .n (.s (.s .n (.c (.s .n .n) .n)) (.s .n (.s (.s .n (.b (.l (.a 37 36) ⟨[], [35, 36]⟩ (.s .n (.s (.c .n .n) (.j ⟨[], [35, 36, 37]⟩ true (.b (.s .n (.s .n (.s (.s .n (.c .n .n)) (.s .n (.j ⟨[.d 59 .bool], [35, 36, 37]⟩ false .n (.c (.s .n .n) .n))))))) .n)))))) (.s .n .n)))))

def con_coreseclaw03_DiagOne : Con Tryz.prog := ⟨6, [.d .str, .d (.sl (.int .i64)), .d (.int .i64), .d (.int .i64)], [.d .bool], ⟨Tryz.f6, Tryz.func6, by kernel_rfl, by kernel_rfl⟩, m_coreseclaw03_DiagOne, fun a r h => mkM_ok (T := t_coreseclaw03_DiagOne) (N := 62) (own := []) (rng := [36]) (c := (codeOf Tryz.f6)) (h := h_coreseclaw03_DiagOne) (qs := [.tmp 8]) kMix Tryz.func6 (by kernel_rfl) (by kernel_rfl) (by kernel_rfl) (by kernel_rfl) a r (Eq.trans (by kernel_rfl) h)⟩
end
end Go.Proofs.YtbfkbakadpkgoaaGreatDoor
