/-
  The functions compute their models: what the evaluator gives is the model, by the kernel. No condition.
-/
import Derived.Test.YtbfkbakadpkgoaaGreatDoorCo5
namespace Go.Proofs.YtbfkbakadpkgoaaGreatDoor
open Go.Gk Go.RowKit
noncomputable section
set_option maxRecDepth 100000
def t_coreseclaw03_DiagParses : Tab Tryz.prog := ⟨tes, ses, fes, bes, [con_coreseclaw03_awake, con_coresecmake_New, con_coresecmake_Deck_Item, con_coresecref03_Print, con_coresecmake_Spoilt, con_diag_Parse, con_coresecref03_Parse, con_coresecref01_Same], [], fds, [], qes, ges, mes, [], xes⟩
def h_coreseclaw03_DiagParses : Hint := (.s .n (.s (.s .n (.c (.s .n .n) .n)) (.s .n (.s (.s .n (.b (.l (.a 41 40) ⟨[], [39, 40]⟩ (.s .n (.s (.c .n .n) (.s (.b (.s .n (.s .n (.s .n (.j ⟨[.d 63 .bool], [39, 40, 41]⟩ false .n (.c (.s .n .n) .n)))))) .n)))))) (.s .n .n)))))
def con_coreseclaw03_DiagParses : Con Tryz.prog := ⟨4, [.d .str, .d (.sl (.int .i64)), .d (.int .i64), .d (.int .i64)], [.d .bool], ⟨Tryz.f4, Tryz.func4, by kernel_rfl, by kernel_rfl⟩, m_coreseclaw03_DiagParses, fun a r h => mkM_ok (T := t_coreseclaw03_DiagParses) (N := 66) (own := []) (rng := [40]) (c := (codeOf Tryz.f4)) (h := h_coreseclaw03_DiagParses) (qs := [.tmp 8]) kMix Tryz.func4 (by kernel_rfl) (by kernel_rfl) (by kernel_rfl) (by kernel_rfl) a r (Eq.trans (by kernel_rfl) h)⟩
end
end Go.Proofs.YtbfkbakadpkgoaaGreatDoor
