/-
  The functions compute their models: what the evaluator gives is the model, by the kernel. No condition.
-/
import Derived.Test.YtbfkbakadpkgoaaGreatDoorCo6
namespace Go.Proofs.YtbfkbakadpkgoaaGreatDoor
open Go.Gk Go.RowKit
noncomputable section
set_option maxRecDepth 100000
def t_coreseclaw03_DiagShapes : Tab Tryz.prog := ⟨tes, ses, fes, bes, [con_coresecmake_New, con_coresecmake_Deck_Item, con_coresecref03_Print, con_diag_Parse, con_coresecref03_Parse, con_coresecref01_Same, con_coresecmake_Mod, con_coreseclaw03_awake], [], fds, [], qes, ges, mes, [], xes⟩
def h_coreseclaw03_DiagShapes : Hint := (.s .n (.s .n (.s (.s .n (.b (.l (.a 53 52) ⟨[], [0, 51, 52]⟩ (.s .n (.s (.c .n .n) (.s (.b (.s .n (.s .n (.s .n (.j ⟨[.d 75 .bool], [0, 51, 52, 53]⟩ false .n (.c (.s .n .n) .n)))))) .n)))))) (.s .n (.s (.s .n (.b (.l (.n 80 79) ⟨[.d 13 .str], [0, 79]⟩ (.s .n (.s (.c .n .n) (.s (.b .n) .n)))))) (.s (.s .n (.b (.l (.n 88 87) ⟨[.d 13 .str], [87]⟩ (.s .n (.s (.c .n .n) (.s (.b .n) .n)))))) (.s .n (.s .n (.j ⟨[.d 4 .bool], []⟩ false .n .n)))))))))
def con_coreseclaw03_DiagShapes : Con Tryz.prog := ⟨5, [.d (.int .i64), .d (.sl (.int .i64))], [.d .bool], ⟨Tryz.f5, Tryz.func5, by kernel_rfl, by kernel_rfl⟩, m_coreseclaw03_DiagShapes, fun a r h => mkM_ok (T := t_coreseclaw03_DiagShapes) (N := 114) (own := []) (rng := [52]) (c := (codeOf Tryz.f5)) (h := h_coreseclaw03_DiagShapes) (qs := [.tmp 4]) kMix Tryz.func5 (by kernel_rfl) (by kernel_rfl) (by kernel_rfl) (by kernel_rfl) a r (Eq.trans (by kernel_rfl) h)⟩
end
end Go.Proofs.YtbfkbakadpkgoaaGreatDoor
