/-
  The functions compute their models: what the evaluator gives is the model, by the kernel. No condition.
-/
import Derived.Test.YtmnbkcpopfmpdaaDoorCo2
namespace Go.Proofs.YtmnbkcpopfmpdaaDoor
open Go.Gk Go.RowKit
noncomputable section
set_option maxRecDepth 100000
def t_coresecref39_Within : Tab Tryd.prog := ⟨tes, ses, fes, bes, [con_coresecref39_Valid, con_coresecref39_bit, con_coresecref39_whole, con_coresecref39_Permits], [], fds, [], qes, ges, mes, []⟩
def h_coresecref39_Within : Hint := (.s .n (.s (.j ⟨[.d 15 .bool], [0, 1]⟩ false .n (.c (.s .n .n) .n)) (.j ⟨[], []⟩ true (.s .n (.b (.l (.a 18 17) ⟨[], [1, 16, 17]⟩ (.s .n (.s (.c .n .n) (.j ⟨[], [1, 16, 17, 18]⟩ true (.b (.s .n (.s .n (.b (.l .g ⟨[.d 7 (.int .i64)], [1, 6, 16, 17, 18]⟩ (.s (.s .n (.c .n .n)) (.s (.b (.j ⟨[.d 53 .bool], [1, 6, 7, 16, 17, 18]⟩ false .n (.c (.s .n .n) .n))) .n))))))) .n)))))) (.s .n .n))))

def con_coresecref39_Within : Con Tryd.prog := ⟨31, [.d (.sl P_api_Permit), .d (.sl P_api_Permit)], [.d .bool], ⟨Tryd.f31, Tryd.func31, by kernel_rfl, by kernel_rfl⟩, m_coresecref39_Within, fun a r h => mkM_ok (T := t_coresecref39_Within) (N := 55) (own := []) (rng := [17]) (c := (codeOf Tryd.f31)) (h := h_coresecref39_Within) (qs := [.tmp 4]) kMix Tryd.func31 (by kernel_rfl) (by kernel_rfl) (by kernel_rfl) (by kernel_rfl) a r (Eq.trans (by kernel_rfl) h)⟩
end
end Go.Proofs.YtmnbkcpopfmpdaaDoor
