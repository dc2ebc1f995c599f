/-
  The functions compute their models: what the evaluator gives is the model, by the kernel. No condition.
-/
import Derived.Test.YtbfkbakadpkgoaaGreatDoorCo3
namespace Go.Proofs.YtbfkbakadpkgoaaGreatDoor
open Go.Gk Go.RowKit
noncomputable section
set_option maxRecDepth 100000
def t_coreseclaw03_awake : Tab Tryz.prog := ⟨tes, ses, fes, bes, [con_diag_Print, con_diag_Parse], [], fds, [], qes, ges, mes, [], xes⟩
def h_coreseclaw03_awake : Hint := (.s .n (.s .n (.s .n (.s .n (.j ⟨[.d 0 .bool], []⟩ false .n .n)))))
def con_coreseclaw03_awake : Con Tryz.prog := ⟨11, [], [.d .bool], ⟨Tryz.f11, Tryz.func11, by kernel_rfl, by kernel_rfl⟩, m_coreseclaw03_awake, fun a r h => mkM_ok (T := t_coreseclaw03_awake) (N := 50) (own := []) (rng := []) (c := (codeOf Tryz.f11)) (h := h_coreseclaw03_awake) (qs := [.tmp 0]) kMix Tryz.func11 (by kernel_rfl) (by kernel_rfl) (by kernel_rfl) (by kernel_rfl) a r (Eq.trans (by kernel_rfl) h)⟩
def t_coreseclaw03_DiagPrints : Tab Tryz.prog := ⟨tes, ses, fes, bes, [con_coresecmake_New, con_coresecmake_Deck_Item, con_diag_Print, con_coresecref03_Print, con_coreseclaw03_awake], [], fds, [], qes, ges, mes, [], xes⟩
def h_coreseclaw03_DiagPrints : Hint := (.s .n (.s .n (.s (.s .n (.b (.l (.a 19 18) ⟨[], [17, 18]⟩ (.s .n (.s (.c .n .n) (.s (.b (.s .n (.s .n (.s .n (.j ⟨[.d 40 .bool], [17, 18, 19]⟩ false .n (.c (.s .n .n) .n)))))) .n)))))) (.s .n .n))))
def con_coreseclaw03_DiagPrints : Con Tryz.prog := ⟨3, [.d .tree, .d (.sl (.int .i64))], [.d .bool], ⟨Tryz.f3, Tryz.func3, by kernel_rfl, by kernel_rfl⟩, m_coreseclaw03_DiagPrints, fun a r h => mkM_ok (T := t_coreseclaw03_DiagPrints) (N := 43) (own := []) (rng := [18]) (c := (codeOf Tryz.f3)) (h := h_coreseclaw03_DiagPrints) (qs := [.tmp 4]) kMix Tryz.func3 (by kernel_rfl) (by kernel_rfl) (by kernel_rfl) (by kernel_rfl) a r (Eq.trans (by kernel_rfl) h)⟩
end
end Go.Proofs.YtbfkbakadpkgoaaGreatDoor
