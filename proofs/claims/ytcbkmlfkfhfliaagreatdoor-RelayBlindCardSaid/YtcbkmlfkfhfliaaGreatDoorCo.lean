/-
  The functions compute their models: what the evaluator gives is the model, by the kernel. No condition.
-/
import Derived.Test.YtcbkmlfkfhfliaaGreatDoorMo
namespace Go.Proofs.YtcbkmlfkfhfliaaGreatDoor
open Go.Gk Go.RowKit
noncomputable section
set_option maxRecDepth 100000
def t_coresecmake2_Small : Tab Tryz.prog := ⟨tes, ses, fes, bes, [], [], fds, [], qes, ges, mes, []⟩
def h_coresecmake2_Small : Hint := (.s .n (.s .n .n))

def con_coresecmake2_Small : Con Tryz.prog := ⟨31, [.d (.sl (.int .u8))], [.d .bool], ⟨Tryz.f31, Tryz.func31, by kernel_rfl, by kernel_rfl⟩, m_coresecmake2_Small, fun a r h => mkM_ok (T := t_coresecmake2_Small) (N := 6) (own := []) (rng := []) (c := (codeOf Tryz.f31)) (h := h_coresecmake2_Small) (qs := [.tmp 2]) kMix Tryz.func31 (by kernel_rfl) (by kernel_rfl) (by kernel_rfl) (by kernel_rfl) a r (Eq.trans (by kernel_rfl) h)⟩
def t_coresecmake2_All : Tab Tryz.prog := ⟨tes, ses, fes, bes, [con_coresecmake2_Small], [], fds, [], qes, ges, mes, []⟩
def h_coresecmake2_All : Hint := (.s .n (.s (.s .n (.b (.l (.a 7 6) ⟨[], [0, 5, 6]⟩ (.s .n (.s (.c .n .n) (.s (.b (.s .n (.s .n (.c (.s .n .n) .n)))) .n)))))) (.s .n .n)))

def con_coresecmake2_All : Con Tryz.prog := ⟨30, [.d (.sl (.sl (.int .u8)))], [.d .bool], ⟨Tryz.f30, Tryz.func30, by kernel_rfl, by kernel_rfl⟩, m_coresecmake2_All, fun a r h => mkM_ok (T := t_coresecmake2_All) (N := 18) (own := []) (rng := [6]) (c := (codeOf Tryz.f30)) (h := h_coresecmake2_All) (qs := [.tmp 2]) kMix Tryz.func30 (by kernel_rfl) (by kernel_rfl) (by kernel_rfl) (by kernel_rfl) a r (Eq.trans (by kernel_rfl) h)⟩
def t_coresecmake2_Message : Tab Tryz.prog := ⟨tes, ses, fes, bes, [con_coresecmake2_Small], [], fds, [], qes, ges, mes, []⟩
def h_coresecmake2_Message : Hint := (.s .n (.s (.s .n (.b (.l (.a 8 7) ⟨[], [1, 6, 7]⟩ (.s .n (.s (.c .n .n) (.s (.b (.s .n (.s .n (.c (.s .n .n) .n)))) .n)))))) (.j ⟨[.d 2 .bool], []⟩ false .n .n)))

def con_coresecmake2_Message : Con Tryz.prog := ⟨7, [.d P_api_Message], [.d .bool], ⟨Tryz.f7, Tryz.func7, by kernel_rfl, by kernel_rfl⟩, m_coresecmake2_Message, fun a r h => mkM_ok (T := t_coresecmake2_Message) (N := 31) (own := []) (rng := [7]) (c := (codeOf Tryz.f7)) (h := h_coresecmake2_Message) (qs := [.tmp 2]) kMix Tryz.func7 (by kernel_rfl) (by kernel_rfl) (by kernel_rfl) (by kernel_rfl) a r (Eq.trans (by kernel_rfl) h)⟩
def t_coreseclaw34_light : Tab Tryz.prog := ⟨tes, ses, fes, bes, [con_coresecmake2_All, con_coresecmake2_Small, con_coresecmake2_Message], [], fds, [], qes, ges, mes, []⟩
def h_coreseclaw34_light : Hint := (.s .n (.s (.s .n (.b (.l (.a 10 9) ⟨[], [1, 8, 9]⟩ (.s .n (.s (.c .n .n) (.s (.b (.s .n (.s .n (.c (.s .n .n) .n)))) .n)))))) (.s (.s .n (.b (.l (.a 27 26) ⟨[], [1, 25, 26]⟩ (.s .n (.s (.c .n .n) (.s (.b (.s .n (.j ⟨[.d 40 .bool], [1, 25, 26, 27]⟩ false .n (.c (.s .n .n) .n)))) .n)))))) (.j ⟨[.d 2 .bool], []⟩ false .n .n))))

def con_coreseclaw34_light : Con Tryz.prog := ⟨6, [.d P_api_Proxy], [.d .bool], ⟨Tryz.f6, Tryz.func6, by kernel_rfl, by kernel_rfl⟩, m_coreseclaw34_light, fun a r h => mkM_ok (T := t_coreseclaw34_light) (N := 52) (own := []) (rng := [9, 26]) (c := (codeOf Tryz.f6)) (h := h_coreseclaw34_light) (qs := [.tmp 2]) kMix Tryz.func6 (by kernel_rfl) (by kernel_rfl) (by kernel_rfl) (by kernel_rfl) a r (Eq.trans (by kernel_rfl) h)⟩
def t_coap_sound : Tab Tryz.prog := ⟨tes, ses, fes, bes, [], [], fds, [], qes, ges, mes, []⟩
def h_coap_sound : Hint := (.s .n (.s .n (.s (.j ⟨[.d 43 .bool], [1]⟩ false .n (.c (.s .n .n) .n)) (.s (.j ⟨[.d 63 .bool], [1]⟩ false .n (.c (.s .n .n) .n)) (.s .n (.s (.s .n (.b (.l (.a 67 66) ⟨[.d 4 (.int .i64)], [1, 65, 66]⟩ (.s .n (.s (.c .n .n) (.s (.b (.s .n (.s (.j ⟨[.d 85 .bool], [1, 6, 65, 66, 67]⟩ false .n (.c (.s .n .n) .n)) .n))) .n)))))) (.s (.j ⟨[.d 105 .bool], [1]⟩ false .n (.c (.s .n .n) .n)) (.j ⟨[.d 2 .bool], []⟩ false .n .n))))))))

def con_coap_sound : Con Tryz.prog := ⟨79, [.d P_api_Message], [.d .bool], ⟨Tryz.f79, Tryz.func79, by kernel_rfl, by kernel_rfl⟩, m_coap_sound, fun a r h => mkM_ok (T := t_coap_sound) (N := 120) (own := []) (rng := [66]) (c := (codeOf Tryz.f79)) (h := h_coap_sound) (qs := [.tmp 2]) kMix Tryz.func79 (by kernel_rfl) (by kernel_rfl) (by kernel_rfl) (by kernel_rfl) a r (Eq.trans (by kernel_rfl) h)⟩
def t_coap_parts : Tab Tryz.prog := ⟨tes, ses, fes, bes, [], [], fds, [], qes, ges, mes, []⟩
def h_coap_parts : Hint := (.s .n (.s (.b (.s .n (.c (.s .n .n) (.s .n (.c (.s .n .n) .n))))) (.s .n .n)))

def con_coap_parts : Con Tryz.prog := ⟨114, [.d (.int .i64)], [.d (.int .u8), .d (.sl (.int .u8))], ⟨Tryz.f114, Tryz.func114, by kernel_rfl, by kernel_rfl⟩, m_coap_parts, fun a r h => mkM_ok (T := t_coap_parts) (N := 24) (own := []) (rng := []) (c := (codeOf Tryz.f114)) (h := h_coap_parts) (qs := [.tmp 2, .tmp 3]) kMix Tryz.func114 (by kernel_rfl) (by kernel_rfl) (by kernel_rfl) (by kernel_rfl) a r (Eq.trans (by kernel_rfl) h)⟩
def t_coap_encode : Tab Tryz.prog := ⟨tes, ses, fes, bes, [con_coap_parts], [], fds, [], qes, ges, mes, []⟩
def h_coap_encode : Hint := (.s .n (.s .n (.s .n (.s .n (.s (.s .n (.b (.l (.a 38 37) ⟨[.o 3 5 (.int .u8), .d 4 (.int .i64)], [1, 36, 37]⟩ (.s .n (.s (.c .n .n) (.s (.b (.s .n (.s .n (.s .n (.s .n .n))))) .n)))))) (.j ⟨[.o 3 5 (.int .u8)], []⟩ false (.s .n (.c .n .n)) (.s .n .n)))))))

def con_coap_encode : Con Tryz.prog := ⟨80, [.d P_api_Message], [.d (.sl (.int .u8))], ⟨Tryz.f80, Tryz.func80, by kernel_rfl, by kernel_rfl⟩, m_coap_encode, fun a r h => mkM_ok (T := t_coap_encode) (N := 85) (own := [30, 34, 63, 65, 67, 70, 80, 83]) (rng := [37]) (c := (codeOf Tryz.f80)) (h := h_coap_encode) (qs := [.tmp 2]) kMix Tryz.func80 (by kernel_rfl) (by kernel_rfl) (by kernel_rfl) (by kernel_rfl) a r (Eq.trans (by kernel_rfl) h)⟩
def t_coap_Encode : Tab Tryz.prog := ⟨tes, ses, fes, bes, [con_coap_sound, con_coap_encode], [], fds, [], qes, ges, mes, []⟩
def h_coap_Encode : Hint := (.s .n (.s (.s .n (.c (.s .n .n) .n)) (.s .n (.s (.s .n (.c (.s .n .n) .n)) (.s .n .n)))))

def con_coap_Encode : Con Tryz.prog := ⟨43, [.d P_api_Message], [.d (.sl (.int .u8)), .d (.int .i64)], ⟨Tryz.f43, Tryz.func43, by kernel_rfl, by kernel_rfl⟩, m_coap_Encode, fun a r h => mkM_ok (T := t_coap_Encode) (N := 14) (own := []) (rng := []) (c := (codeOf Tryz.f43)) (h := h_coap_Encode) (qs := [.tmp 2, .tmp 3]) kMix Tryz.func43 (by kernel_rfl) (by kernel_rfl) (by kernel_rfl) (by kernel_rfl) a r (Eq.trans (by kernel_rfl) h)⟩
def t_cache_keyed : Tab Tryz.prog := ⟨tes, ses, fes, bes, [], [], fds, [], qes, ges, mes, []⟩
def h_cache_keyed : Hint := (.s .n (.j ⟨[.d 2 .bool], []⟩ false .n .n))

def con_cache_keyed : Con Tryz.prog := ⟨69, [.d (.sl (.int .u8))], [.d .bool], ⟨Tryz.f69, Tryz.func69, by kernel_rfl, by kernel_rfl⟩, m_cache_keyed, fun a r h => mkM_ok (T := t_cache_keyed) (N := 11) (own := []) (rng := []) (c := (codeOf Tryz.f69)) (h := h_cache_keyed) (qs := [.tmp 2]) kMix Tryz.func69 (by kernel_rfl) (by kernel_rfl) (by kernel_rfl) (by kernel_rfl) a r (Eq.trans (by kernel_rfl) h)⟩
def t_bytes_Equal : Tab Tryz.prog := ⟨tes, ses, fes, bes, [], [], fds, [], qes, ges, mes, []⟩
def h_bytes_Equal : Hint := (.s .n (.s .n .n))

def con_bytes_Equal : Con Tryz.prog := ⟨112, [.d (.sl (.int .u8)), .d (.sl (.int .u8))], [.d .bool], ⟨Tryz.f112, Tryz.func112, by kernel_rfl, by kernel_rfl⟩, m_bytes_Equal, fun a r h => mkM_ok (T := t_bytes_Equal) (N := 10) (own := []) (rng := []) (c := (codeOf Tryz.f112)) (h := h_bytes_Equal) (qs := [.tmp 4]) kMix Tryz.func112 (by kernel_rfl) (by kernel_rfl) (by kernel_rfl) (by kernel_rfl) a r (Eq.trans (by kernel_rfl) h)⟩
def t_cache_find : Tab Tryz.prog := ⟨tes, ses, fes, bes, [con_bytes_Equal], [], fds, [], qes, ges, mes, []⟩
def h_cache_find : Hint := (.s .n (.s (.s .n (.b (.l (.a 9 8) ⟨[], [1, 7, 8]⟩ (.s .n (.s (.c .n .n) (.s (.b (.s .n (.s .n (.c (.s .n .n) .n)))) .n)))))) (.s .n .n)))

def con_cache_find : Con Tryz.prog := ⟨70, [.d (.sl P_api_Cached), .d (.sl (.int .u8))], [.d (.int .i64)], ⟨Tryz.f70, Tryz.func70, by kernel_rfl, by kernel_rfl⟩, m_cache_find, fun a r h => mkM_ok (T := t_cache_find) (N := 20) (own := []) (rng := [8]) (c := (codeOf Tryz.f70)) (h := h_cache_find) (qs := [.tmp 4]) kMix Tryz.func70 (by kernel_rfl) (by kernel_rfl) (by kernel_rfl) (by kernel_rfl) a r (Eq.trans (by kernel_rfl) h)⟩
def t_coap_Valid : Tab Tryz.prog := ⟨tes, ses, fes, bes, [con_coap_sound, con_coap_encode], [], fds, [], qes, ges, mes, []⟩
def h_coap_Valid : Hint := (.s .n (.j ⟨[.d 2 .bool], []⟩ false .n .n))

def con_coap_Valid : Con Tryz.prog := ⟨71, [.d P_api_Message], [.d .bool], ⟨Tryz.f71, Tryz.func71, by kernel_rfl, by kernel_rfl⟩, m_coap_Valid, fun a r h => mkM_ok (T := t_coap_Valid) (N := 11) (own := []) (rng := []) (c := (codeOf Tryz.f71)) (h := h_coap_Valid) (qs := [.tmp 2]) kMix Tryz.func71 (by kernel_rfl) (by kernel_rfl) (by kernel_rfl) (by kernel_rfl) a r (Eq.trans (by kernel_rfl) h)⟩
def t_cache_bare : Tab Tryz.prog := ⟨tes, ses, fes, bes, [], [], fds, [], qes, ges, mes, []⟩
def h_cache_bare : Hint := (.s .n (.j ⟨[.d 2 .bool], []⟩ false .n .n))

def con_cache_bare : Con Tryz.prog := ⟨72, [.d P_api_Message], [.d .bool], ⟨Tryz.f72, Tryz.func72, by kernel_rfl, by kernel_rfl⟩, m_cache_bare, fun a r h => mkM_ok (T := t_cache_bare) (N := 17) (own := []) (rng := []) (c := (codeOf Tryz.f72)) (h := h_cache_bare) (qs := [.tmp 2]) kMix Tryz.func72 (by kernel_rfl) (by kernel_rfl) (by kernel_rfl) (by kernel_rfl) a r (Eq.trans (by kernel_rfl) h)⟩
def t_coap_Response : Tab Tryz.prog := ⟨tes, ses, fes, bes, [], [], fds, [], qes, ges, mes, []⟩
def h_coap_Response : Hint := (.s .n (.j ⟨[.d 2 .bool], []⟩ false .n .n))

def con_coap_Response : Con Tryz.prog := ⟨73, [.d (.int .i64)], [.d .bool], ⟨Tryz.f73, Tryz.func73, by kernel_rfl, by kernel_rfl⟩, m_coap_Response, fun a r h => mkM_ok (T := t_coap_Response) (N := 17) (own := []) (rng := []) (c := (codeOf Tryz.f73)) (h := h_coap_Response) (qs := [.tmp 2]) kMix Tryz.func73 (by kernel_rfl) (by kernel_rfl) (by kernel_rfl) (by kernel_rfl) a r (Eq.trans (by kernel_rfl) h)⟩
def t_cache_Valid : Tab Tryz.prog := ⟨tes, ses, fes, bes, [con_cache_keyed, con_cache_find, con_coap_Valid, con_cache_bare, con_coap_Response], [], fds, [], qes, ges, mes, []⟩
def h_cache_Valid : Hint := (.s .n (.s (.s .n (.c (.s .n .n) .n)) (.s (.s .n (.b (.l (.a 10 9) ⟨[], [0, 8, 9]⟩ (.s .n (.s (.c .n .n) (.s (.b (.s .n (.s (.j ⟨[.d 37 .bool], [0, 4, 8, 9, 10]⟩ false .n (.c (.s .n .n) .n)) (.j ⟨[.d 54 .bool], [0, 8, 9, 10]⟩ false .n (.c (.s .n .n) .n))))) .n)))))) (.s .n .n))))

def con_cache_Valid : Con Tryz.prog := ⟨33, [.d (.sl P_api_Cached)], [.d .bool], ⟨Tryz.f33, Tryz.func33, by kernel_rfl, by kernel_rfl⟩, m_cache_Valid, fun a r h => mkM_ok (T := t_cache_Valid) (N := 56) (own := []) (rng := [9]) (c := (codeOf Tryz.f33)) (h := h_cache_Valid) (qs := [.tmp 2]) kMix Tryz.func33 (by kernel_rfl) (by kernel_rfl) (by kernel_rfl) (by kernel_rfl) a r (Eq.trans (by kernel_rfl) h)⟩
def t_relay_find : Tab Tryz.prog := ⟨tes, ses, fes, bes, [], [], fds, [], qes, ges, mes, []⟩
def h_relay_find : Hint := (.s .n (.s (.s .n (.b (.l (.a 9 8) ⟨[], [1, 7, 8]⟩ (.s .n (.s (.c .n .n) (.s (.b (.s .n (.s .n (.c (.s .n .n) .n)))) .n)))))) (.s .n .n)))

def con_relay_find : Con Tryz.prog := ⟨34, [.d (.sl P_api_Hop), .d (.sl (.int .u8))], [.d (.int .i64)], ⟨Tryz.f34, Tryz.func34, by kernel_rfl, by kernel_rfl⟩, m_relay_find, fun a r h => mkM_ok (T := t_relay_find) (N := 22) (own := []) (rng := [8]) (c := (codeOf Tryz.f34)) (h := h_relay_find) (qs := [.tmp 4]) kMix Tryz.func34 (by kernel_rfl) (by kernel_rfl) (by kernel_rfl) (by kernel_rfl) a r (Eq.trans (by kernel_rfl) h)⟩
def t_relay_Valid : Tab Tryz.prog := ⟨tes, ses, fes, bes, [con_cache_Valid, con_relay_find], [], fds, [], qes, ges, mes, []⟩
def h_relay_Valid : Hint := (.s .n (.s (.j ⟨[.d 34 .bool], [1]⟩ false .n (.c (.s .n .n) .n)) (.s (.s .n (.b (.l (.a 38 37) ⟨[], [1, 36, 37]⟩ (.s .n (.s (.c .n .n) (.s (.b (.s .n (.j ⟨[.d 72 .bool], [1, 36, 37, 38]⟩ false .n (.c (.s .n .n) .n)))) .n)))))) (.s .n .n))))

def con_relay_Valid : Con Tryz.prog := ⟨11, [.d P_api_Proxy], [.d .bool], ⟨Tryz.f11, Tryz.func11, by kernel_rfl, by kernel_rfl⟩, m_relay_Valid, fun a r h => mkM_ok (T := t_relay_Valid) (N := 74) (own := []) (rng := [37]) (c := (codeOf Tryz.f11)) (h := h_relay_Valid) (qs := [.tmp 2]) kMix Tryz.func11 (by kernel_rfl) (by kernel_rfl) (by kernel_rfl) (by kernel_rfl) a r (Eq.trans (by kernel_rfl) h)⟩
def t_relay_time : Tab Tryz.prog := ⟨tes, ses, fes, bes, [], [], fds, [], qes, ges, mes, []⟩
def h_relay_time : Hint := (.s .n (.j ⟨[.d 2 .bool], []⟩ false .n .n))

def con_relay_time : Con Tryz.prog := ⟨44, [.d (.int .i64)], [.d .bool], ⟨Tryz.f44, Tryz.func44, by kernel_rfl, by kernel_rfl⟩, m_relay_time, fun a r h => mkM_ok (T := t_relay_time) (N := 9) (own := []) (rng := []) (c := (codeOf Tryz.f44)) (h := h_relay_time) (qs := [.tmp 2]) kMix Tryz.func44 (by kernel_rfl) (by kernel_rfl) (by kernel_rfl) (by kernel_rfl) a r (Eq.trans (by kernel_rfl) h)⟩
def t_relay_copied : Tab Tryz.prog := ⟨tes, ses, fes, bes, [], [], fds, [], qes, ges, mes, []⟩
def h_relay_copied : Hint := (.s .n (.s .n .n))

def con_relay_copied : Con Tryz.prog := ⟨48, [.d (.sl (.int .u8))], [.d (.sl (.int .u8))], ⟨Tryz.f48, Tryz.func48, by kernel_rfl, by kernel_rfl⟩, m_relay_copied, fun a r h => mkM_ok (T := t_relay_copied) (N := 5) (own := []) (rng := []) (c := (codeOf Tryz.f48)) (h := h_relay_copied) (qs := [.tmp 2]) kMix Tryz.func48 (by kernel_rfl) (by kernel_rfl) (by kernel_rfl) (by kernel_rfl) a r (Eq.trans (by kernel_rfl) h)⟩
def t_relay_message : Tab Tryz.prog := ⟨tes, ses, fes, bes, [con_relay_copied], [15, 33], fds, [], qes, ges, mes, []⟩
def h_relay_message : Hint := (.s .n (.s .n (.s .n (.s (.s .n (.b (.l (.a 19 18) ⟨[.h 3 29 P_api_Message 4 75 P_api_Option], [2, 3, 17, 18]⟩ (.s .n (.s (.c .n .n) (.s (.b (.s .n .n)) .n)))))) (.s .n .n)))))

def con_relay_message : Con Tryz.prog := ⟨47, [.d P_api_Message], [.d P_api_Message], ⟨Tryz.f47, Tryz.func47, by kernel_rfl, by kernel_rfl⟩, m_relay_message, fun a r h => mkM_ok (T := t_relay_message) (N := 36) (own := [32]) (rng := [18]) (c := (codeOf Tryz.f47)) (h := h_relay_message) (qs := [.cell 2 29]) kMix Tryz.func47 (by kernel_rfl) (by kernel_rfl) (by kernel_rfl) (by kernel_rfl) a r (Eq.trans (by kernel_rfl) h)⟩
def t_relay_cloned : Tab Tryz.prog := ⟨tes, ses, fes, bes, [con_relay_copied, con_relay_message], [3, 37, 59], fds, [(12, 1, 22), (12, 2, 23)], qes, ges, mes, []⟩
def h_relay_cloned : Hint := (.s .n (.s .n (.s (.s .n (.b (.l (.a 16 15) ⟨[.h 3 25 P_api_Proxy 1 69 P_api_Hop], [1, 2, 3, 14, 15]⟩ (.s .n (.s (.c .n .n) (.s (.b (.s .n (.s .n .n))) .n)))))) (.s (.s .n (.b (.l (.a 42 41) ⟨[.h 3 25 P_api_Proxy 2 72 P_api_Cached], [2, 3, 40, 41]⟩ (.s .n (.s (.c .n .n) (.s (.b (.s .n (.s .n .n))) .n)))))) (.s .n .n)))))

def con_relay_cloned : Con Tryz.prog := ⟨39, [.d P_api_Proxy], [.d P_api_Proxy], ⟨Tryz.f39, Tryz.func39, by kernel_rfl, by kernel_rfl⟩, m_relay_cloned, fun a r h => mkM_ok (T := t_relay_cloned) (N := 62) (own := [36, 58]) (rng := [15, 41]) (c := (codeOf Tryz.f39)) (h := h_relay_cloned) (qs := [.cell 2 25]) kMix Tryz.func39 (by kernel_rfl) (by kernel_rfl) (by kernel_rfl) (by kernel_rfl) a r (Eq.trans (by kernel_rfl) h)⟩
def t_relay_cloned_o : Tab Tryz.prog := ⟨tes, ses, fes, bes, [con_relay_copied, con_relay_message], [2, 3, 37, 59, 2000003], fds, [(12, 2, 23), (12, 1, 22)], qes, ges, mes, []⟩
def h_relay_cloned_o : Hint := (.s .n (.s .n (.s (.s .n (.b (.l (.a 16 15) ⟨[.h 3 25 P_api_Proxy 1 69 P_api_Hop], [1, 2, 3, 14, 15]⟩ (.s .n (.s (.c .n .n) (.s (.b (.s .n (.s .n .n))) .n)))))) (.s (.s .n (.b (.l (.a 42 41) ⟨[.h 3 25 P_api_Proxy 2 72 P_api_Cached], [2, 3, 40, 41]⟩ (.s .n (.s (.c .n .n) (.s (.b (.s .n (.s .n .n))) .n)))))) (.s .n .n)))))

def con_relay_cloned_o : Con Tryz.prog := ⟨39, [.d P_api_Proxy], [.h P_api_Proxy 1 69 P_api_Hop], ⟨Tryz.f39, Tryz.func39, by kernel_rfl, by kernel_rfl⟩, m_relay_cloned_o, fun a r h => mkM_ok (T := t_relay_cloned_o) (N := 62) (own := [36, 58]) (rng := [15, 41]) (c := (codeOf Tryz.f39)) (h := h_relay_cloned_o) (qs := [.cell 2 25]) kMix Tryz.func39 (by kernel_rfl) (by kernel_rfl) (by kernel_rfl) (by kernel_rfl) a r (Eq.trans (by kernel_rfl) h)⟩
theorem kUnd_26 : Tryz.prog.underlying 26 = some (.slice 5) := by kernel_rfl
theorem kSl_26 : TySl Tryz.prog 26 5 1 1 (.int .u8 0) := ⟨by kernel_rfl, info_of (by kernel_rfl), by kernel_rfl, by decide⟩
theorem kZero_5 : TyZero Tryz.prog 5 (.int .u8 0) := fun w => by kernel_rfl
theorem c_bytes_Clone {lab : Lab} {w : World} {a0 : List UInt8} {r : List UInt8} (hm : m_bytes_Clone a0 = some r) (t : Top lab w) {oa : Option Addr} {c : Nat} (s : SL Rep.u8 lab w oa c a0) :
    Calls Tryz.prog 113 [.slice oa a0.length c].toArray w (fun e w' => ∃ (oa' : Option Addr) (c' : Nat), e = .returned (.slice oa' r.length c') ∧ Ste lab 0 w lab w' ∧ SL Rep.u8 lab w' oa' c' r ∧ True) := by
  have hm' : bnd (app ([] : List UInt8) a0) some = some r := by unfold m_bytes_Clone at hm; rw [hm]; rfl
  refine enter Tryz.func113 rfl 8 rfl rfl ?_
  refine CW.sub (G := [(0, .slice oa a0.length c)]) ⟨rfl, trivial⟩ ?_
  refine CW.seq ?_
  refine CW.region ?_
  refine LW.assign wn rfl rfl ?_
  refine LW.nil ?_
  refine EW.seq_n ?_
  refine CW.seq ?_
  refine CW.seq ?_
  refine CW.region ?_
  refine LW.move wn rfl rfl ?_
  refine LW.eqnil kUnd_26 wn rfl rfl rfl ?_
  refine LW.nil ?_
  refine EW.seq_n ?_
  refine CW.cond (b := oa.isNone) rfl (fun hb => ?_) (fun hb => ?_)
  · cases oa with
    | some _ => cases hb
    | none =>
      have h0 : a0 = [] := (SL.flat' s).1 rfl
      subst h0
      have hr : r = [] := by simp [app, bnd, LIM] at hm'; exact hm'
      subst hr
      refine CW.seq ?_
      refine CW.region ?_
      refine LW.assign wn rfl rfl ?_
      refine LW.nil ?_
      refine EW.seq_n ?_
      refine CW.ret ?_
      refine EW.seq_r ?_
      exact EW.ret1 rfl rfl ⟨none, 0, rfl, ⟨rfl, rfl, rfl, Nat.le_refl _, fun _ _ _ => rfl, fun _ _ => rfl, t⟩, SL.nil, trivial⟩
  · refine CW.skip ?_
    refine EW.seq_n ?_
    refine CW.seq ?_
    refine CW.region ?_
    have cx := Cx.start t
    replace s := s.keep Keeps.lin
    refine LW.buildOwn (k := 2) (ρ := Rep.u8) (vs := []) (css := []) (xs := []) rfl kSl_26 kZero_5 (by kernel_rfl) rfl rfl trivial cx.top wn rfl ?_
    intro oa1 c1 lab1 w1 e1 o1
    replace cx := cx.step e1 rfl; replace s := s.step e1
    refine LW.move wn rfl rfl ?_
    refine LW.append (ρ := Rep.u8) (xs := []) (ys := a0) hm' o1 (SL.flat' s) cx.top rfl kSl_26 rfl wn rfl rfl rfl ?_
    intro zs oa2 c2 lab2 w2 hz e2 o2
    cases hz
    replace cx := cx.step e2 rfl
    refine LW.assign wn rfl rfl ?_
    refine LW.nil ?_
    refine EW.seq_n ?_
    refine CW.ret ?_
    exact EW.ret1 rfl rfl ⟨_, _, rfl, cx.ste t, o2.sl (cx.keeps t) (cx.own0 t rfl), trivial⟩
theorem co_bytes_Clone {lab : Lab} {w : World} {a0 : List UInt8} {r : List UInt8} {k : Nat} (hm : m_bytes_Clone a0 = some r) (t : Top lab w) {oa : Option Addr} {c : Nat} (s : SL Rep.u8 lab w oa c a0) :
    Calls Tryz.prog 113 [.slice oa a0.length c].toArray w (fun e w' => ∃ (lab' : Lab) (oa' : Option Addr) (c' : Nat), e = .returned (.slice oa' r.length c') ∧ Ste lab 0 w lab' w' ∧ Own Rep.u8 lab' w' k 5 oa' c' r ∧ True) := by
  have hm' : bnd (app ([] : List UInt8) a0) some = some r := by unfold m_bytes_Clone at hm; rw [hm]; rfl
  refine enter Tryz.func113 rfl 8 rfl rfl ?_
  refine CW.sub (G := [(0, .slice oa a0.length c)]) ⟨rfl, trivial⟩ ?_
  refine CW.seq ?_
  refine CW.region ?_
  refine LW.assign wn rfl rfl ?_
  refine LW.nil ?_
  refine EW.seq_n ?_
  refine CW.seq ?_
  refine CW.seq ?_
  refine CW.region ?_
  refine LW.move wn rfl rfl ?_
  refine LW.eqnil kUnd_26 wn rfl rfl rfl ?_
  refine LW.nil ?_
  refine EW.seq_n ?_
  refine CW.cond (b := oa.isNone) rfl (fun hb => ?_) (fun hb => ?_)
  · cases oa with
    | some _ => cases hb
    | none =>
      have h0 : a0 = [] := (SL.flat' s).1 rfl
      subst h0
      have hr : r = [] := by simp [app, bnd, LIM] at hm'; exact hm'
      subst hr
      refine CW.seq ?_
      refine CW.region ?_
      refine LW.assign wn rfl rfl ?_
      refine LW.nil ?_
      refine EW.seq_n ?_
      refine CW.ret ?_
      refine EW.seq_r ?_
      exact EW.ret1 rfl rfl ⟨lab, none, 0, rfl, ⟨rfl, rfl, rfl, Nat.le_refl _, fun _ _ _ => rfl, fun _ _ => rfl, t⟩, Own.nil, trivial⟩
  · refine CW.skip ?_
    refine EW.seq_n ?_
    refine CW.seq ?_
    refine CW.region ?_
    have cx := Cx.start t
    replace s := s.keep Keeps.lin
    refine LW.buildOwn (k := 2) (ρ := Rep.u8) (vs := []) (css := []) (xs := []) rfl kSl_26 kZero_5 (by kernel_rfl) rfl rfl trivial cx.top wn rfl ?_
    intro oa1 c1 lab1 w1 e1 o1
    replace cx := cx.step e1 rfl; replace s := s.step e1
    refine LW.move wn rfl rfl ?_
    refine LW.append (ρ := Rep.u8) (xs := []) (ys := a0) hm' o1 (SL.flat' s) cx.top rfl kSl_26 rfl wn rfl rfl rfl ?_
    intro zs oa2 c2 lab2 w2 hz e2 o2
    cases hz
    replace cx := cx.step e2 rfl
    refine LW.assign wn rfl rfl ?_
    refine LW.nil ?_
    refine EW.seq_n ?_
    refine CW.ret ?_
    obtain ⟨lab_, ste_, own_⟩ := o2.out cx t rfl k
    exact EW.ret1 rfl rfl ⟨_, _, _, rfl, ste_, own_, trivial⟩

def con_bytes_Clone : Con Tryz.prog := ⟨113, [.d (.sl (.int .u8))], [.d (.sl (.int .u8))], ⟨Tryz.f113, Tryz.func113, by kernel_rfl, by kernel_rfl⟩, m_bytes_Clone, by
  intro a r h k kp gp lab w vs t _ _ hk hargs
  match vs, hargs with
  | [v], hargs =>
    obtain ⟨hd, _⟩ := hargs
    obtain ⟨oa, c, rfl, s⟩ := Dat.sl hd
    refine (c_bytes_Clone (a0 := a.1) (r := r) h t s).mono ?_
    rintro e w' ⟨oa', c', rfl, hs, s', _⟩
    exact ⟨lab, [_], rfl, hs.stp (.inr rfl), Dat.ofSl (t := .int .u8) s', trivial⟩⟩
def con_bytes_Clone_o : Con Tryz.prog := ⟨113, [.d (.sl (.int .u8))], [.o 5 (.int .u8)], ⟨Tryz.f113, Tryz.func113, by kernel_rfl, by kernel_rfl⟩, m_bytes_Clone, by
  intro a r h k kp gp lab w vs t _ _ hk hargs
  match vs, hargs with
  | [v], hargs =>
    obtain ⟨hd, _⟩ := hargs
    obtain ⟨oa, c, rfl, s⟩ := Dat.sl hd
    refine (co_bytes_Clone (a0 := a.1) (r := r) (k := k) h t s).mono ?_
    rintro e w' ⟨lab', oa', c', rfl, hs, o, _⟩
    exact ⟨lab', [_], rfl, hs.stp (.inr rfl), ⟨oa', c', rfl, o⟩, trivial⟩⟩

def t_option_Get : Tab Tryz.prog := ⟨tes, ses, fes, bes, [con_bytes_Clone], [], fds, [], qes, ges, mes, []⟩
def h_option_Get : Hint := (.s .n (.s (.s .n (.b (.l (.a 11 10) ⟨[], [1, 9, 10]⟩ (.s .n (.s (.c .n .n) (.s (.b (.s .n (.s .n (.c (.s .n .n) .n)))) .n)))))) (.s .n .n)))

def con_option_Get : Con Tryz.prog := ⟨77, [.d P_api_Message, .d (.int .i64)], [.d (.sl (.int .u8)), .d .bool], ⟨Tryz.f77, Tryz.func77, by kernel_rfl, by kernel_rfl⟩, m_option_Get, fun a r h => mkM_ok (T := t_option_Get) (N := 23) (own := []) (rng := [10]) (c := (codeOf Tryz.f77)) (h := h_option_Get) (qs := [.tmp 4, .tmp 5]) kMix Tryz.func77 (by kernel_rfl) (by kernel_rfl) (by kernel_rfl) (by kernel_rfl) a r (Eq.trans (by kernel_rfl) h)⟩
def t_relay_has : Tab Tryz.prog := ⟨tes, ses, fes, bes, [con_option_Get], [], fds, [], qes, ges, mes, []⟩
def h_relay_has : Hint := (.s .n (.s .n (.s .n .n)))

def con_relay_has : Con Tryz.prog := ⟨36, [.d P_api_Message, .d (.int .i64)], [.d .bool], ⟨Tryz.f36, Tryz.func36, by kernel_rfl, by kernel_rfl⟩, m_relay_has, fun a r h => mkM_ok (T := t_relay_has) (N := 14) (own := []) (rng := []) (c := (codeOf Tryz.f36)) (h := h_relay_has) (qs := [.tmp 4]) kMix Tryz.func36 (by kernel_rfl) (by kernel_rfl) (by kernel_rfl) (by kernel_rfl) a r (Eq.trans (by kernel_rfl) h)⟩
def t_relay_Protected : Tab Tryz.prog := ⟨tes, ses, fes, bes, [con_relay_has], [], fds, [], qes, ges, mes, []⟩
def h_relay_Protected : Hint := (.s .n (.s .n .n))

def con_relay_Protected : Con Tryz.prog := ⟨13, [.d P_api_Message], [.d .bool], ⟨Tryz.f13, Tryz.func13, by kernel_rfl, by kernel_rfl⟩, m_relay_Protected, fun a r h => mkM_ok (T := t_relay_Protected) (N := 5) (own := []) (rng := []) (c := (codeOf Tryz.f13)) (h := h_relay_Protected) (qs := [.tmp 2]) kMix Tryz.func13 (by kernel_rfl) (by kernel_rfl) (by kernel_rfl) (by kernel_rfl) a r (Eq.trans (by kernel_rfl) h)⟩
def t_option_in : Tab Tryz.prog := ⟨tes, ses, fes, bes, [], [], fds, [], qes, ges, mes, []⟩
def h_option_in : Hint := (.s .n (.j ⟨[.d 2 .bool], []⟩ false .n .n))

def con_option_in : Con Tryz.prog := ⟨115, [.d (.int .i64)], [.d .bool], ⟨Tryz.f115, Tryz.func115, by kernel_rfl, by kernel_rfl⟩, m_option_in, fun a r h => mkM_ok (T := t_option_in) (N := 9) (own := []) (rng := []) (c := (codeOf Tryz.f115)) (h := h_option_in) (qs := [.tmp 2]) kMix Tryz.func115 (by kernel_rfl) (by kernel_rfl) (by kernel_rfl) (by kernel_rfl) a r (Eq.trans (by kernel_rfl) h)⟩
def t_option_NoCacheKey : Tab Tryz.prog := ⟨tes, ses, fes, bes, [con_option_in], [], fds, [], qes, ges, mes, []⟩
def h_option_NoCacheKey : Hint := (.s .n (.j ⟨[.d 2 .bool], []⟩ false .n .n))

def con_option_NoCacheKey : Con Tryz.prog := ⟨81, [.d (.int .i64)], [.d .bool], ⟨Tryz.f81, Tryz.func81, by kernel_rfl, by kernel_rfl⟩, m_option_NoCacheKey, fun a r h => mkM_ok (T := t_option_NoCacheKey) (N := 10) (own := []) (rng := []) (c := (codeOf Tryz.f81)) (h := h_option_NoCacheKey) (qs := [.tmp 2]) kMix Tryz.func81 (by kernel_rfl) (by kernel_rfl) (by kernel_rfl) (by kernel_rfl) a r (Eq.trans (by kernel_rfl) h)⟩
def t_cbor_Uint : Tab Tryz.prog := ⟨tes, ses, fes, bes, [], [], fds, [], qes, ges, mes, []⟩
def h_cbor_Uint : Hint := (.s .n (.s .n .n))

def con_cbor_Uint : Con Tryz.prog := ⟨117, [.d (.int .u64)], [.d .tree], ⟨Tryz.f117, Tryz.func117, by kernel_rfl, by kernel_rfl⟩, m_cbor_Uint, fun a r h => mkM_ok (T := t_cbor_Uint) (N := 5) (own := []) (rng := []) (c := (codeOf Tryz.f117)) (h := h_cbor_Uint) (qs := [.cell 2 117]) kMix Tryz.func117 (by kernel_rfl) (by kernel_rfl) (by kernel_rfl) (by kernel_rfl) a r (Eq.trans (by kernel_rfl) h)⟩
def t_cbor_Int : Tab Tryz.prog := ⟨tes, ses, fes, bes, [con_cbor_Uint], [], fds, [], qes, ges, mes, []⟩
def h_cbor_Int : Hint := (.s .n (.s (.s .n (.c (.s .n .n) .n)) (.s .n .n)))

def con_cbor_Int : Con Tryz.prog := ⟨83, [.d (.int .i64)], [.d .tree], ⟨Tryz.f83, Tryz.func83, by kernel_rfl, by kernel_rfl⟩, m_cbor_Int, fun a r h => mkM_ok (T := t_cbor_Int) (N := 12) (own := []) (rng := []) (c := (codeOf Tryz.f83)) (h := h_cbor_Int) (qs := [.cell 2 117]) kMix Tryz.func83 (by kernel_rfl) (by kernel_rfl) (by kernel_rfl) (by kernel_rfl) a r (Eq.trans (by kernel_rfl) h)⟩

theorem c_slices_Clone_byte_byte {lab : Lab} {w : World} {a0 : List UInt8} {r : List UInt8} (hm : m_slices_Clone_byte_byte a0 = some r) (t : Top lab w) {oa : Option Addr} {c : Nat} (s : SL Rep.u8 lab w oa c a0) :
    Calls Tryz.prog 118 [.slice oa a0.length c].toArray w (fun e w' => ∃ (oa' : Option Addr) (c' : Nat), e = .returned (.slice oa' r.length c') ∧ Ste lab 0 w lab w' ∧ SL Rep.u8 lab w' oa' c' r ∧ True) := by
  have hm' : bnd (app ([] : List UInt8) a0) some = some r := by unfold m_slices_Clone_byte_byte at hm; rw [hm]; rfl
  refine enter Tryz.func118 rfl 8 rfl rfl ?_
  refine CW.sub (G := [(0, .slice oa a0.length c)]) ⟨rfl, trivial⟩ ?_
  refine CW.seq ?_
  refine CW.region ?_
  refine LW.assign wn rfl rfl ?_
  refine LW.nil ?_
  refine EW.seq_n ?_
  refine CW.seq ?_
  refine CW.seq ?_
  refine CW.region ?_
  refine LW.move wn rfl rfl ?_
  refine LW.eqnil kUnd_26 wn rfl rfl rfl ?_
  refine LW.nil ?_
  refine EW.seq_n ?_
  refine CW.cond (b := oa.isNone) rfl (fun hb => ?_) (fun hb => ?_)
  · cases oa with
    | some _ => cases hb
    | none =>
      have h0 : a0 = [] := (SL.flat' s).1 rfl
      subst h0
      have hr : r = [] := by simp [app, bnd, LIM] at hm'; exact hm'
      subst hr
      refine CW.seq ?_
      refine CW.region ?_
      refine LW.assign wn rfl rfl ?_
      refine LW.nil ?_
      refine EW.seq_n ?_
      refine CW.ret ?_
      refine EW.seq_r ?_
      exact EW.ret1 rfl rfl ⟨none, 0, rfl, ⟨rfl, rfl, rfl, Nat.le_refl _, fun _ _ _ => rfl, fun _ _ => rfl, t⟩, SL.nil, trivial⟩
  · refine CW.skip ?_
    refine EW.seq_n ?_
    refine CW.seq ?_
    refine CW.region ?_
    have cx := Cx.start t
    replace s := s.keep Keeps.lin
    refine LW.buildOwn (k := 2) (ρ := Rep.u8) (vs := []) (css := []) (xs := []) rfl kSl_26 kZero_5 (by kernel_rfl) rfl rfl trivial cx.top wn rfl ?_
    intro oa1 c1 lab1 w1 e1 o1
    replace cx := cx.step e1 rfl; replace s := s.step e1
    refine LW.move wn rfl rfl ?_
    refine LW.append (ρ := Rep.u8) (xs := []) (ys := a0) hm' o1 (SL.flat' s) cx.top rfl kSl_26 rfl wn rfl rfl rfl ?_
    intro zs oa2 c2 lab2 w2 hz e2 o2
    cases hz
    replace cx := cx.step e2 rfl
    refine LW.assign wn rfl rfl ?_
    refine LW.nil ?_
    refine EW.seq_n ?_
    refine CW.ret ?_
    exact EW.ret1 rfl rfl ⟨_, _, rfl, cx.ste t, o2.sl (cx.keeps t) (cx.own0 t rfl), trivial⟩
theorem co_slices_Clone_byte_byte {lab : Lab} {w : World} {a0 : List UInt8} {r : List UInt8} {k : Nat} (hm : m_slices_Clone_byte_byte a0 = some r) (t : Top lab w) {oa : Option Addr} {c : Nat} (s : SL Rep.u8 lab w oa c a0) :
    Calls Tryz.prog 118 [.slice oa a0.length c].toArray w (fun e w' => ∃ (lab' : Lab) (oa' : Option Addr) (c' : Nat), e = .returned (.slice oa' r.length c') ∧ Ste lab 0 w lab' w' ∧ Own Rep.u8 lab' w' k 5 oa' c' r ∧ True) := by
  have hm' : bnd (app ([] : List UInt8) a0) some = some r := by unfold m_slices_Clone_byte_byte at hm; rw [hm]; rfl
  refine enter Tryz.func118 rfl 8 rfl rfl ?_
  refine CW.sub (G := [(0, .slice oa a0.length c)]) ⟨rfl, trivial⟩ ?_
  refine CW.seq ?_
  refine CW.region ?_
  refine LW.assign wn rfl rfl ?_
  refine LW.nil ?_
  refine EW.seq_n ?_
  refine CW.seq ?_
  refine CW.seq ?_
  refine CW.region ?_
  refine LW.move wn rfl rfl ?_
  refine LW.eqnil kUnd_26 wn rfl rfl rfl ?_
  refine LW.nil ?_
  refine EW.seq_n ?_
  refine CW.cond (b := oa.isNone) rfl (fun hb => ?_) (fun hb => ?_)
  · cases oa with
    | some _ => cases hb
    | none =>
      have h0 : a0 = [] := (SL.flat' s).1 rfl
      subst h0
      have hr : r = [] := by simp [app, bnd, LIM] at hm'; exact hm'
      subst hr
      refine CW.seq ?_
      refine CW.region ?_
      refine LW.assign wn rfl rfl ?_
      refine LW.nil ?_
      refine EW.seq_n ?_
      refine CW.ret ?_
      refine EW.seq_r ?_
      exact EW.ret1 rfl rfl ⟨lab, none, 0, rfl, ⟨rfl, rfl, rfl, Nat.le_refl _, fun _ _ _ => rfl, fun _ _ => rfl, t⟩, Own.nil, trivial⟩
  · refine CW.skip ?_
    refine EW.seq_n ?_
    refine CW.seq ?_
    refine CW.region ?_
    have cx := Cx.start t
    replace s := s.keep Keeps.lin
    refine LW.buildOwn (k := 2) (ρ := Rep.u8) (vs := []) (css := []) (xs := []) rfl kSl_26 kZero_5 (by kernel_rfl) rfl rfl trivial cx.top wn rfl ?_
    intro oa1 c1 lab1 w1 e1 o1
    replace cx := cx.step e1 rfl; replace s := s.step e1
    refine LW.move wn rfl rfl ?_
    refine LW.append (ρ := Rep.u8) (xs := []) (ys := a0) hm' o1 (SL.flat' s) cx.top rfl kSl_26 rfl wn rfl rfl rfl ?_
    intro zs oa2 c2 lab2 w2 hz e2 o2
    cases hz
    replace cx := cx.step e2 rfl
    refine LW.assign wn rfl rfl ?_
    refine LW.nil ?_
    refine EW.seq_n ?_
    refine CW.ret ?_
    obtain ⟨lab_, ste_, own_⟩ := o2.out cx t rfl k
    exact EW.ret1 rfl rfl ⟨_, _, _, rfl, ste_, own_, trivial⟩

def con_slices_Clone_byte_byte : Con Tryz.prog := ⟨118, [.d (.sl (.int .u8))], [.d (.sl (.int .u8))], ⟨Tryz.f118, Tryz.func118, by kernel_rfl, by kernel_rfl⟩, m_slices_Clone_byte_byte, by
  intro a r h k kp gp lab w vs t _ _ hk hargs
  match vs, hargs with
  | [v], hargs =>
    obtain ⟨hd, _⟩ := hargs
    obtain ⟨oa, c, rfl, s⟩ := Dat.sl hd
    refine (c_slices_Clone_byte_byte (a0 := a.1) (r := r) h t s).mono ?_
    rintro e w' ⟨oa', c', rfl, hs, s', _⟩
    exact ⟨lab, [_], rfl, hs.stp (.inr rfl), Dat.ofSl (t := .int .u8) s', trivial⟩⟩
def con_slices_Clone_byte_byte_o : Con Tryz.prog := ⟨118, [.d (.sl (.int .u8))], [.o 5 (.int .u8)], ⟨Tryz.f118, Tryz.func118, by kernel_rfl, by kernel_rfl⟩, m_slices_Clone_byte_byte, by
  intro a r h k kp gp lab w vs t _ _ hk hargs
  match vs, hargs with
  | [v], hargs =>
    obtain ⟨hd, _⟩ := hargs
    obtain ⟨oa, c, rfl, s⟩ := Dat.sl hd
    refine (co_slices_Clone_byte_byte (a0 := a.1) (r := r) (k := k) h t s).mono ?_
    rintro e w' ⟨lab', oa', c', rfl, hs, o, _⟩
    exact ⟨lab', [_], rfl, hs.stp (.inr rfl), ⟨oa', c', rfl, o⟩, trivial⟩⟩

def t_cbor_Bytes : Tab Tryz.prog := ⟨tes, ses, fes, bes, [con_slices_Clone_byte_byte], [], fds, [], qes, ges, mes, []⟩
def h_cbor_Bytes : Hint := (.s .n (.s .n .n))

def con_cbor_Bytes : Con Tryz.prog := ⟨84, [.d (.sl (.int .u8))], [.d .tree], ⟨Tryz.f84, Tryz.func84, by kernel_rfl, by kernel_rfl⟩, m_cbor_Bytes, fun a r h => mkM_ok (T := t_cbor_Bytes) (N := 6) (own := []) (rng := []) (c := (codeOf Tryz.f84)) (h := h_cbor_Bytes) (qs := [.cell 2 117]) kMix Tryz.func84 (by kernel_rfl) (by kernel_rfl) (by kernel_rfl) (by kernel_rfl) a r (Eq.trans (by kernel_rfl) h)⟩
def cz_cbor_copied (mf : cur [.d .tree] (Option (tupR (([.d .tree] : List RK) ++ outs [.d .tree])))) (okf : ∀ a r, app1 [.d .tree] mf a = some r → OKc Tryz.prog 116 [.d .tree] [.d .tree] a (toHL _ r)) : Con Tryz.prog := ⟨116, [.d .tree], [.d .tree], ⟨Tryz.f116, Tryz.func116, by kernel_rfl, by kernel_rfl⟩, mf, okf⟩
def t_cbor_copied (mf : cur [.d .tree] (Option (tupR (([.d .tree] : List RK) ++ outs [.d .tree])))) (okf : ∀ a r, app1 [.d .tree] mf a = some r → OKc Tryz.prog 116 [.d .tree] [.d .tree] a (toHL _ r)) : Tab Tryz.prog := ⟨tes, ses, fes, bes, [con_bytes_Clone, cz_cbor_copied mf okf], [], fds, [], qes, ges, mes, []⟩
def h_cbor_copied : Hint := (.s .n (.s .n (.s .n (.s (.s .n (.b (.l (.a 17 16) ⟨[.o 3 117 .tree], [1, 2, 15, 16]⟩ (.s .n (.s (.c .n .n) (.s (.b (.s .n .n)) .n)))))) (.s .n (.j ⟨[.b 1 117 .tree], [1, 2]⟩ false (.s .n (.c .n .n)) (.s .n .n)))))))
theorem ob_cbor_copied (mf : cur [.d .tree] (Option (tupR (([.d .tree] : List RK) ++ outs [.d .tree])))) (okf : ∀ a r, app1 [.d .tree] mf a = some r → OKc Tryz.prog 116 [.d .tree] [.d .tree] a (toHL _ r)) : ∀ a r, app1 [.d .tree] (b_cbor_copied mf) a = some r → OKc Tryz.prog 116 [.d .tree] [.d .tree] a (toHL _ r) := fun a r h => mkM_ok (T := t_cbor_copied mf okf) (N := 35) (own := [13]) (rng := [16]) (c := (codeOf Tryz.f116)) (h := h_cbor_copied) (qs := [.cell 2 117]) (ps := [.d .tree]) (rs := [.d .tree]) kMix Tryz.func116 (by kernel_rfl) (by kernel_rfl) (by kernel_rfl) (by kernel_rfl) a r (Eq.trans (by kernel_rfl) h)
theorem on_cbor_copied : ∀ (n : Nat) a r, app1 [.d .tree] (n_cbor_copied n) a = some r → OKc Tryz.prog 116 [.d .tree] [.d .tree] a (toHL _ r)
  | 0, a, r, h => by cases (show (none : Option _) = some r from h)
  | n + 1, a, r, h => ob_cbor_copied (n_cbor_copied n) (on_cbor_copied n) a r h
def con_cbor_copied : Con Tryz.prog := ⟨116, [.d .tree], [.d .tree], ⟨Tryz.f116, Tryz.func116, by kernel_rfl, by kernel_rfl⟩, m_cbor_copied, fun a r h => on_cbor_copied 40 a r h⟩

def t_cbor_Array : Tab Tryz.prog := ⟨tes, ses, fes, bes, [con_cbor_copied], [3, 19], fds, [(6, 3, 115)], qes, ges, mes, []⟩
def h_cbor_Array : Hint := (.s .n (.s .n (.s (.s .n (.b (.l (.a 9 8) ⟨[.h 3 117 .tree 3 117 .tree], [2, 3, 7, 8]⟩ (.s .n (.s (.c .n .n) (.s (.b (.s .n .n)) .n)))))) (.s .n .n))))

def con_cbor_Array : Con Tryz.prog := ⟨82, [.d (.sl .tree)], [.d .tree], ⟨Tryz.f82, Tryz.func82, by kernel_rfl, by kernel_rfl⟩, m_cbor_Array, fun a r h => mkM_ok (T := t_cbor_Array) (N := 22) (own := [18]) (rng := [8]) (c := (codeOf Tryz.f82)) (h := h_cbor_Array) (qs := [.cell 2 117]) kMix Tryz.func82 (by kernel_rfl) (by kernel_rfl) (by kernel_rfl) (by kernel_rfl) a r (Eq.trans (by kernel_rfl) h)⟩
def con_unicode_utf8_Valid : Con Tryz.prog := ⟨145, [.d (.sl (.int .u8))], [.d .bool], ⟨Tryz.f145, Tryz.func145, by kernel_rfl, by kernel_rfl⟩, m_unicode_utf8_Valid, fun a r h => by cases (show (none : Option _) = some r from h)⟩

def t_cbor_plain : Tab Tryz.prog := ⟨tes, ses, fes, bes, [con_unicode_utf8_Valid], [], fds, [], qes, ges, mes, []⟩
def h_cbor_plain : Hint := (.s .n (.s (.s .n (.b (.j ⟨[.d 7 .bool], [1, 6]⟩ false (.s .n (.c .n .n)) (.c (.j ⟨[.d 2 .bool, .d 3 .bool], []⟩ false .n .n) (.s .n (.c (.j ⟨[.d 2 .bool, .d 3 .bool], []⟩ false .n .n) (.s .n (.c (.j ⟨[.d 2 .bool, .d 3 .bool], []⟩ false .n .n) (.s .n (.c (.j ⟨[.d 2 .bool, .d 3 .bool], []⟩ false .n .n) (.s .n (.c (.s .n (.j ⟨[.d 2 .bool, .d 3 .bool], []⟩ false .n .n)) .n)))))))))))) (.s .n .n)))

def con_cbor_plain : Con Tryz.prog := ⟨137, [.d .tree], [.d .bool, .d .bool], ⟨Tryz.f137, Tryz.func137, by kernel_rfl, by kernel_rfl⟩, m_cbor_plain, fun a r h => mkM_ok (T := t_cbor_plain) (N := 99) (own := []) (rng := []) (c := (codeOf Tryz.f137)) (h := h_cbor_plain) (qs := [.tmp 2, .tmp 3]) kMix Tryz.func137 (by kernel_rfl) (by kernel_rfl) (by kernel_rfl) (by kernel_rfl) a r (Eq.trans (by kernel_rfl) h)⟩
def con_cbor_float : Con Tryz.prog := ⟨131, [.d (.int .u64)], [.d (.sl (.int .u8))], ⟨Tryz.f131, Tryz.func131, by kernel_rfl, by kernel_rfl⟩, m_cbor_float, fun a r h => by cases (show (none : Option _) = some r from h)⟩

def t_cbor_major : Tab Tryz.prog := ⟨tes, ses, fes, bes, [], [], fds, [], qes, ges, mes, []⟩
def h_cbor_major : Hint := (.s .n (.s (.s .n (.b (.j ⟨[.d 6 .bool], [1, 5]⟩ false (.s .n (.c .n .n)) (.c (.s .n .n) (.s .n (.c (.s .n .n) (.s .n (.c (.s .n .n) .n)))))))) (.s .n .n)))

def con_cbor_major : Con Tryz.prog := ⟨133, [.d .tree], [.d (.int .u8), .d (.int .u64)], ⟨Tryz.f133, Tryz.func133, by kernel_rfl, by kernel_rfl⟩, m_cbor_major, fun a r h => mkM_ok (T := t_cbor_major) (N := 34) (own := []) (rng := []) (c := (codeOf Tryz.f133)) (h := h_cbor_major) (qs := [.tmp 2, .tmp 3]) kMix Tryz.func133 (by kernel_rfl) (by kernel_rfl) (by kernel_rfl) (by kernel_rfl) a r (Eq.trans (by kernel_rfl) h)⟩
def t_cbor_head : Tab Tryz.prog := ⟨tes, ses, fes, bes, [], [], fds, [], qes, ges, mes, []⟩
def h_cbor_head : Hint := (.s .n (.s .n (.s (.b (.s .n (.c (.s .n .n) (.s .n (.c (.s .n .n) (.s .n (.c (.s .n .n) (.s .n (.c (.s .n .n) .n))))))))) (.s .n (.s (.s .n (.b (.l .g ⟨[.o 6 5 (.int .u8), .d 7 (.int .i64)], [1]⟩ (.s (.s .n (.c .n .n)) (.s (.b .n) .n))))) (.s .n .n))))))

def con_cbor_head : Con Tryz.prog := ⟨132, [.d (.int .u8), .d (.int .u64)], [.d (.sl (.int .u8))], ⟨Tryz.f132, Tryz.func132, by kernel_rfl, by kernel_rfl⟩, m_cbor_head, fun a r h => mkM_ok (T := t_cbor_head) (N := 69) (own := [56, 67]) (rng := []) (c := (codeOf Tryz.f132)) (h := h_cbor_head) (qs := [.tmp 4]) kMix Tryz.func132 (by kernel_rfl) (by kernel_rfl) (by kernel_rfl) (by kernel_rfl) a r (Eq.trans (by kernel_rfl) h)⟩
def t_cbor_checker_spend : Tab Tryz.prog := ⟨tes, ses, fes, bes, [con_cbor_float, con_cbor_major, con_cbor_head], [], fds, [], qes, ges, mes, []⟩
def h_cbor_checker_spend : Hint := (.s .n (.j ⟨[.b 0 145 P_cbor_checker], [0]⟩ false (.s .n (.b (.s .n (.c .n (.s .n (.c (.s .n (.s .n (.c .n .n))) .n)))))) (.s .n .n)))

def con_cbor_checker_spend : Con Tryz.prog := ⟨138, [.p 145 P_cbor_checker, .d .tree], [.d .bool], ⟨Tryz.f138, Tryz.func138, by kernel_rfl, by kernel_rfl⟩, m_cbor_checker_spend, fun a r h => mkM_ok (T := t_cbor_checker_spend) (N := 61) (own := []) (rng := []) (c := (codeOf Tryz.f138)) (h := h_cbor_checker_spend) (qs := [.tmp 4]) kMix Tryz.func138 (by kernel_rfl) (by kernel_rfl) (by kernel_rfl) (by kernel_rfl) a r (Eq.trans (by kernel_rfl) h)⟩
def cz_cbor_add_o (mf : cur [.r 5 (.int .u8), .d .tree] (Option (tupR (([.o 5 (.int .u8)] : List RK) ++ outs [.r 5 (.int .u8), .d .tree])))) (okf : ∀ a r, app1 [.r 5 (.int .u8), .d .tree] mf a = some r → OKc Tryz.prog 120 [.r 5 (.int .u8), .d .tree] [.o 5 (.int .u8)] a (toHL _ r)) : Con Tryz.prog := ⟨120, [.r 5 (.int .u8), .d .tree], [.o 5 (.int .u8)], ⟨Tryz.f120, Tryz.func120, by kernel_rfl, by kernel_rfl⟩, mf, okf⟩
def t_cbor_add_o (mf : cur [.r 5 (.int .u8), .d .tree] (Option (tupR (([.o 5 (.int .u8)] : List RK) ++ outs [.r 5 (.int .u8), .d .tree])))) (okf : ∀ a r, app1 [.r 5 (.int .u8), .d .tree] mf a = some r → OKc Tryz.prog 120 [.r 5 (.int .u8), .d .tree] [.o 5 (.int .u8)] a (toHL _ r)) : Tab Tryz.prog := ⟨tes, ses, fes, bes, [con_cbor_float, con_cbor_major, con_cbor_head, cz_cbor_add_o mf okf], [], fds, [], qes, ges, mes, []⟩
def h_cbor_add_o : Hint := (.s .n (.s (.b (.s .n (.c (.s .n .n) (.j ⟨[.d 16 .bool], [0, 3]⟩ false .n (.c (.s .n .n) .n))))) (.s .n (.s .n (.s (.s .n (.b (.l (.a 45 44) ⟨[.o 0 5 (.int .u8)], [43, 44]⟩ (.s .n (.s (.c .n .n) (.s (.b (.s .n .n)) .n)))))) (.s .n .n))))))
theorem ob_cbor_add_o (mf : cur [.r 5 (.int .u8), .d .tree] (Option (tupR (([.o 5 (.int .u8)] : List RK) ++ outs [.r 5 (.int .u8), .d .tree])))) (okf : ∀ a r, app1 [.r 5 (.int .u8), .d .tree] mf a = some r → OKc Tryz.prog 120 [.r 5 (.int .u8), .d .tree] [.o 5 (.int .u8)] a (toHL _ r)) : ∀ a r, app1 [.r 5 (.int .u8), .d .tree] (b_cbor_add_o mf) a = some r → OKc Tryz.prog 120 [.r 5 (.int .u8), .d .tree] [.o 5 (.int .u8)] a (toHL _ r) := fun a r h => mkM_ok (T := t_cbor_add_o mf okf) (N := 54) (own := [15, 30, 37, 41]) (rng := [44]) (c := (codeOf Tryz.f120)) (h := h_cbor_add_o) (qs := [.tmp 4]) (ps := [.r 5 (.int .u8), .d .tree]) (rs := [.o 5 (.int .u8)]) kMix Tryz.func120 (by kernel_rfl) (by kernel_rfl) (by kernel_rfl) (by kernel_rfl) a r (Eq.trans (by kernel_rfl) h)
theorem on_cbor_add_o : ∀ (n : Nat) a r, app1 [.r 5 (.int .u8), .d .tree] (n_cbor_add_o n) a = some r → OKc Tryz.prog 120 [.r 5 (.int .u8), .d .tree] [.o 5 (.int .u8)] a (toHL _ r)
  | 0, a, r, h => by cases (show (none : Option _) = some r from h)
  | n + 1, a, r, h => ob_cbor_add_o (n_cbor_add_o n) (on_cbor_add_o n) a r h
def con_cbor_add_o : Con Tryz.prog := ⟨120, [.r 5 (.int .u8), .d .tree], [.o 5 (.int .u8)], ⟨Tryz.f120, Tryz.func120, by kernel_rfl, by kernel_rfl⟩, m_cbor_add_o, fun a r h => on_cbor_add_o 40 a r h⟩

def t_cbor_add : Tab Tryz.prog := ⟨tes, ses, fes, bes, [con_cbor_float, con_cbor_major, con_cbor_head, con_cbor_add_o], [], fds, [], qes, ges, mes, []⟩
def h_cbor_add : Hint := (.s .n (.s (.b (.s .n (.c (.s .n .n) (.j ⟨[.d 16 .bool], [0, 3]⟩ false .n (.c (.s .n .n) .n))))) (.s .n (.s .n (.s (.s .n (.b (.l (.a 45 44) ⟨[.o 0 5 (.int .u8)], [43, 44]⟩ (.s .n (.s (.c .n .n) (.s (.b (.s .n .n)) .n)))))) (.s .n .n))))))

def con_cbor_add : Con Tryz.prog := ⟨120, [.r 5 (.int .u8), .d .tree], [.d (.sl (.int .u8))], ⟨Tryz.f120, Tryz.func120, by kernel_rfl, by kernel_rfl⟩, m_cbor_add, fun a r h => mkM_ok (T := t_cbor_add) (N := 54) (own := [37, 41]) (rng := [44]) (c := (codeOf Tryz.f120)) (h := h_cbor_add) (qs := [.tmp 4]) kMix Tryz.func120 (by kernel_rfl) (by kernel_rfl) (by kernel_rfl) (by kernel_rfl) a r (Eq.trans (by kernel_rfl) h)⟩
def con_bytes_Compare : Con Tryz.prog := ⟨148, [.d (.sl (.int .u8)), .d (.sl (.int .u8))], [.d (.int .i64)], ⟨Tryz.f148, Tryz.func148, by kernel_rfl, by kernel_rfl⟩, m_bytes_Compare, fun a r h => by cases (show (none : Option _) = some r from h)⟩

def t_cbor_ascending : Tab Tryz.prog := ⟨tes, ses, fes, bes, [con_cbor_add, con_bytes_Compare], [], fds, [], qes, ges, mes, []⟩
def h_cbor_ascending : Hint := (.s .n (.s (.s .n (.b (.l .g ⟨[.d 3 (.int .i64)], [0]⟩ (.s (.s .n (.c .n .n)) (.s (.b (.s .n (.c (.s .n .n) .n))) .n))))) (.s .n .n)))

def con_cbor_ascending : Con Tryz.prog := ⟨139, [.d (.sl .tree)], [.d .bool], ⟨Tryz.f139, Tryz.func139, by kernel_rfl, by kernel_rfl⟩, m_cbor_ascending, fun a r h => mkM_ok (T := t_cbor_ascending) (N := 23) (own := []) (rng := []) (c := (codeOf Tryz.f139)) (h := h_cbor_ascending) (qs := [.tmp 2]) kMix Tryz.func139 (by kernel_rfl) (by kernel_rfl) (by kernel_rfl) (by kernel_rfl) a r (Eq.trans (by kernel_rfl) h)⟩
def cz_cbor_checker_item (mf : cur [.p 145 P_cbor_checker, .d .tree, .d (.int .i64)] (Option (tupR (([.d .bool] : List RK) ++ outs [.p 145 P_cbor_checker, .d .tree, .d (.int .i64)])))) (okf : ∀ a r, app1 [.p 145 P_cbor_checker, .d .tree, .d (.int .i64)] mf a = some r → OKc Tryz.prog 130 [.p 145 P_cbor_checker, .d .tree, .d (.int .i64)] [.d .bool] a (toHL _ r)) : Con Tryz.prog := ⟨130, [.p 145 P_cbor_checker, .d .tree, .d (.int .i64)], [.d .bool], ⟨Tryz.f130, Tryz.func130, by kernel_rfl, by kernel_rfl⟩, mf, okf⟩
def t_cbor_checker_item (mf : cur [.p 145 P_cbor_checker, .d .tree, .d (.int .i64)] (Option (tupR (([.d .bool] : List RK) ++ outs [.p 145 P_cbor_checker, .d .tree, .d (.int .i64)])))) (okf : ∀ a r, app1 [.p 145 P_cbor_checker, .d .tree, .d (.int .i64)] mf a = some r → OKc Tryz.prog 130 [.p 145 P_cbor_checker, .d .tree, .d (.int .i64)] [.d .bool] a (toHL _ r)) : Tab Tryz.prog := ⟨tes, ses, fes, bes, [con_cbor_plain, con_cbor_checker_spend, cz_cbor_checker_item mf okf, con_cbor_ascending], [], fds, [], qes, ges, mes, []⟩
def h_cbor_checker_item : Hint := (.s .n (.s .n (.s (.j ⟨[.d 34 .bool], [0, 2, 4]⟩ false .n (.c (.s .n .n) .n)) (.s (.s .n (.s .n (.c (.j ⟨[.d 6 .bool, .b 0 145 P_cbor_checker], [0]⟩ false .n .n) .n))) (.s (.j ⟨[.d 64 .bool], [0, 2, 4]⟩ false .n (.c (.s .n .n) .n)) (.s (.j ⟨[.d 95 .bool], [0, 2, 4]⟩ false .n (.c (.s .n .n) .n)) (.s (.s .n (.c (.s .n .n) .n)) (.s (.s .n (.b (.l (.a 103 102) ⟨[.b 0 145 P_cbor_checker], [0, 2, 4, 101, 102]⟩ (.s .n (.s (.c .n .n) (.s (.b (.s .n (.s .n (.c (.s .n .n) .n)))) .n)))))) (.j ⟨[.d 6 .bool], [0]⟩ false .n .n)))))))))
theorem ob_cbor_checker_item (mf : cur [.p 145 P_cbor_checker, .d .tree, .d (.int .i64)] (Option (tupR (([.d .bool] : List RK) ++ outs [.p 145 P_cbor_checker, .d .tree, .d (.int .i64)])))) (okf : ∀ a r, app1 [.p 145 P_cbor_checker, .d .tree, .d (.int .i64)] mf a = some r → OKc Tryz.prog 130 [.p 145 P_cbor_checker, .d .tree, .d (.int .i64)] [.d .bool] a (toHL _ r)) : ∀ a r, app1 [.p 145 P_cbor_checker, .d .tree, .d (.int .i64)] (b_cbor_checker_item mf) a = some r → OKc Tryz.prog 130 [.p 145 P_cbor_checker, .d .tree, .d (.int .i64)] [.d .bool] a (toHL _ r) := fun a r h => mkM_ok (T := t_cbor_checker_item mf okf) (N := 122) (own := []) (rng := [102]) (c := (codeOf Tryz.f130)) (h := h_cbor_checker_item) (qs := [.tmp 6]) (ps := [.p 145 P_cbor_checker, .d .tree, .d (.int .i64)]) (rs := [.d .bool]) kMix Tryz.func130 (by kernel_rfl) (by kernel_rfl) (by kernel_rfl) (by kernel_rfl) a r (Eq.trans (by kernel_rfl) h)
theorem on_cbor_checker_item : ∀ (n : Nat) a r, app1 [.p 145 P_cbor_checker, .d .tree, .d (.int .i64)] (n_cbor_checker_item n) a = some r → OKc Tryz.prog 130 [.p 145 P_cbor_checker, .d .tree, .d (.int .i64)] [.d .bool] a (toHL _ r)
  | 0, a, r, h => by cases (show (none : Option _) = some r from h)
  | n + 1, a, r, h => ob_cbor_checker_item (n_cbor_checker_item n) (on_cbor_checker_item n) a r h
def con_cbor_checker_item : Con Tryz.prog := ⟨130, [.p 145 P_cbor_checker, .d .tree, .d (.int .i64)], [.d .bool], ⟨Tryz.f130, Tryz.func130, by kernel_rfl, by kernel_rfl⟩, m_cbor_checker_item, fun a r h => on_cbor_checker_item 40 a r h⟩

def t_cbor_Valid : Tab Tryz.prog := ⟨tes, ses, fes, bes, [con_cbor_checker_item], [], fds, [], qes, ges, mes, []⟩
def h_cbor_Valid : Hint := (.s .n (.s .n (.s .n .n)))

def con_cbor_Valid : Con Tryz.prog := ⟨119, [.d .tree], [.d .bool], ⟨Tryz.f119, Tryz.func119, by kernel_rfl, by kernel_rfl⟩, m_cbor_Valid, fun a r h => mkM_ok (T := t_cbor_Valid) (N := 6) (own := []) (rng := []) (c := (codeOf Tryz.f119)) (h := h_cbor_Valid) (qs := [.tmp 2]) kMix Tryz.func119 (by kernel_rfl) (by kernel_rfl) (by kernel_rfl) (by kernel_rfl) a r (Eq.trans (by kernel_rfl) h)⟩
def t_cbor_Encode : Tab Tryz.prog := ⟨tes, ses, fes, bes, [con_cbor_Valid, con_cbor_add], [], fds, [], qes, ges, mes, []⟩
def h_cbor_Encode : Hint := (.s .n (.s (.s .n (.c (.s .n .n) .n)) (.s .n .n)))

def con_cbor_Encode : Con Tryz.prog := ⟨85, [.d .tree], [.d (.sl (.int .u8)), .d (.int .i64)], ⟨Tryz.f85, Tryz.func85, by kernel_rfl, by kernel_rfl⟩, m_cbor_Encode, fun a r h => mkM_ok (T := t_cbor_Encode) (N := 9) (own := []) (rng := []) (c := (codeOf Tryz.f85)) (h := h_cbor_Encode) (qs := [.tmp 2, .tmp 3]) kMix Tryz.func85 (by kernel_rfl) (by kernel_rfl) (by kernel_rfl) (by kernel_rfl) a r (Eq.trans (by kernel_rfl) h)⟩
def t_option_CacheKey : Tab Tryz.prog := ⟨tes, ses, fes, bes, [con_option_NoCacheKey, con_cbor_Int, con_cbor_Bytes, con_cbor_Array, con_cbor_Encode], [3, 43], fds, [(9, 3, 115)], qes, ges, mes, []⟩
def h_option_CacheKey : Hint := (.s .n (.s .n (.s (.s .n (.b (.l (.a 13 12) ⟨[.h 3 117 .tree 3 117 .tree], [1, 3, 11, 12]⟩ (.s .n (.s (.c .n .n) (.j ⟨[.h 3 117 .tree 3 117 .tree], [1, 3, 11, 12, 13]⟩ false (.b (.s .n (.j ⟨[.d 30 .bool], [1, 3, 5, 11, 12, 13]⟩ false .n (.c .n .n)))) .n)))))) (.s .n (.j ⟨[.o 6 117 .tree], []⟩ false (.s .n (.c .n .n)) (.s .n (.s .n .n)))))))

def con_option_CacheKey : Con Tryz.prog := ⟨45, [.d P_api_Message], [.d (.sl (.int .u8))], ⟨Tryz.f45, Tryz.func45, by kernel_rfl, by kernel_rfl⟩, m_option_CacheKey, fun a r h => mkM_ok (T := t_option_CacheKey) (N := 66) (own := [42, 49, 58]) (rng := [12]) (c := (codeOf Tryz.f45)) (h := h_option_CacheKey) (qs := [.tmp 2]) kMix Tryz.func45 (by kernel_rfl) (by kernel_rfl) (by kernel_rfl) (by kernel_rfl) a r (Eq.trans (by kernel_rfl) h)⟩
def t_option_FromUint : Tab Tryz.prog := ⟨tes, ses, fes, bes, [], [], fds, [], qes, ges, mes, []⟩
def h_option_FromUint : Hint := (.s .n (.s (.j ⟨[.d 10 .bool], [0]⟩ false .n (.c (.s .n .n) .n)) (.s .n (.s (.s .n (.b (.l .g ⟨[.o 3 5 (.int .u8), .d 4 (.int .i64)], [0]⟩ (.s (.s .n (.c .n .n)) (.j ⟨[.o 3 5 (.int .u8)], [0, 4]⟩ false (.b (.s .n (.c .n .n))) .n))))) (.s .n .n)))))

def con_option_FromUint : Con Tryz.prog := ⟨87, [.d (.int .i64)], [.d (.sl (.int .u8))], ⟨Tryz.f87, Tryz.func87, by kernel_rfl, by kernel_rfl⟩, m_option_FromUint, fun a r h => mkM_ok (T := t_option_FromUint) (N := 27) (own := [25]) (rng := []) (c := (codeOf Tryz.f87)) (h := h_option_FromUint) (qs := [.tmp 2]) kMix Tryz.func87 (by kernel_rfl) (by kernel_rfl) (by kernel_rfl) (by kernel_rfl) a r (Eq.trans (by kernel_rfl) h)⟩
def t_option_owned : Tab Tryz.prog := ⟨tes, ses, fes, bes, [con_bytes_Clone], [15, 32], fds, [], qes, ges, mes, []⟩
def h_option_owned : Hint := (.s .n (.s .n (.s .n (.s (.s .n (.b (.l (.a 18 17) ⟨[.h 2 29 P_api_Message 4 75 P_api_Option], [2, 4, 16, 17]⟩ (.s .n (.s (.c .n .n) (.s (.b (.s .n .n)) .n)))))) (.s .n .n)))))

def con_option_owned : Con Tryz.prog := ⟨121, [.d P_api_Message, .d (.sl P_api_Option)], [.d P_api_Message], ⟨Tryz.f121, Tryz.func121, by kernel_rfl, by kernel_rfl⟩, m_option_owned, fun a r h => mkM_ok (T := t_option_owned) (N := 35) (own := [31]) (rng := [17]) (c := (codeOf Tryz.f121)) (h := h_option_owned) (qs := [.cell 4 29]) kMix Tryz.func121 (by kernel_rfl) (by kernel_rfl) (by kernel_rfl) (by kernel_rfl) a r (Eq.trans (by kernel_rfl) h)⟩
def t_option_Set : Tab Tryz.prog := ⟨tes, ses, fes, bes, [con_option_owned], [], fds, [], qes, ges, mes, []⟩
def h_option_Set : Hint := (.s .n (.s .n (.s (.s .n (.b (.l (.a 16 15) ⟨[.o 7 75 P_api_Option, .o 8 75 P_api_Option], [1, 2, 3, 6, 14, 15]⟩ (.s .n (.s (.c .n .n) (.j ⟨[.o 7 75 P_api_Option, .o 8 75 P_api_Option], [1, 2, 3, 6, 14, 15, 16]⟩ false (.b (.s .n (.b (.s .n (.c .n (.s .n (.c .n .n))))))) .n)))))) (.s (.s .n (.b (.l (.a 41 40) ⟨[.o 7 75 P_api_Option], [1, 3, 6, 8, 39, 40]⟩ (.s .n (.s (.c .n .n) (.s (.b (.s .n .n)) .n)))))) (.s .n .n)))))

def con_option_Set : Con Tryz.prog := ⟨86, [.d P_api_Message, .d (.int .i64), .d (.sl (.sl (.int .u8)))], [.d P_api_Message], ⟨Tryz.f86, Tryz.func86, by kernel_rfl, by kernel_rfl⟩, m_option_Set, fun a r h => mkM_ok (T := t_option_Set) (N := 57) (own := [28, 37, 50]) (rng := [15, 40]) (c := (codeOf Tryz.f86)) (h := h_option_Set) (qs := [.cell 6 29]) kMix Tryz.func86 (by kernel_rfl) (by kernel_rfl) (by kernel_rfl) (by kernel_rfl) a r (Eq.trans (by kernel_rfl) h)⟩
def t_cache_Lookup : Tab Tryz.prog := ⟨tes, ses, fes, bes, [con_cache_find, con_option_FromUint, con_option_Set], [], fds, [], qes, ges, mes, []⟩
def h_cache_Lookup : Hint := (.s .n (.s .n (.s (.j ⟨[.d 37 .bool], [0, 2, 6, 8]⟩ false .n (.c (.s .n .n) .n)) (.s .n .n))))

def con_cache_Lookup : Con Tryz.prog := ⟨46, [.d (.sl P_api_Cached), .d (.sl (.int .u8)), .d (.int .i64)], [.d P_api_Message, .d .bool], ⟨Tryz.f46, Tryz.func46, by kernel_rfl, by kernel_rfl⟩, m_cache_Lookup, fun a r h => mkM_ok (T := t_cache_Lookup) (N := 60) (own := []) (rng := []) (c := (codeOf Tryz.f46)) (h := h_cache_Lookup) (qs := [.cell 6 29, .tmp 7]) kMix Tryz.func46 (by kernel_rfl) (by kernel_rfl) (by kernel_rfl) (by kernel_rfl) a r (Eq.trans (by kernel_rfl) h)⟩
def t_relay_Forward_1 : Tab Tryz.prog := ⟨tes, ses, fes, bes, [], [], fds, [], qes, ges, mes, []⟩
def h_relay_Forward_1 : Hint := (.s .n (.s .n .n))

def con_relay_Forward_1 : Con Tryz.prog := ⟨49, [.d (.cp (.int .i64))], [.d (.sl (.int .u8))], ⟨Tryz.f49, Tryz.func49, by kernel_rfl, by kernel_rfl⟩, m_relay_Forward_1, fun a r h => mkM_ok (T := t_relay_Forward_1) (N := 8) (own := []) (rng := []) (c := (codeOf Tryz.f49)) (h := h_relay_Forward_1) (qs := [.tmp 1]) kMix Tryz.func49 (by kernel_rfl) (by kernel_rfl) (by kernel_rfl) (by kernel_rfl) a r (Eq.trans (by kernel_rfl) h)⟩
def t_relay_Forward_1_o : Tab Tryz.prog := ⟨tes, ses, fes, bes, [], [], fds, [], qes, ges, mes, []⟩
def h_relay_Forward_1_o : Hint := (.s .n (.s .n .n))

def con_relay_Forward_1_o : Con Tryz.prog := ⟨49, [.d (.cp (.int .i64))], [.o 5 (.int .u8)], ⟨Tryz.f49, Tryz.func49, by kernel_rfl, by kernel_rfl⟩, m_relay_Forward_1_o, fun a r h => mkM_ok (T := t_relay_Forward_1_o) (N := 8) (own := [7]) (rng := []) (c := (codeOf Tryz.f49)) (h := h_relay_Forward_1_o) (qs := [.tmp 1]) kMix Tryz.func49 (by kernel_rfl) (by kernel_rfl) (by kernel_rfl) (by kernel_rfl) a r (Eq.trans (by kernel_rfl) h)⟩
def t_fragment_numbered : Tab Tryz.prog := ⟨tes, ses, fes, bes, [], [], fds, [], qes, ges, mes, []⟩
def h_fragment_numbered : Hint := (.s .n (.j ⟨[.d 2 .bool], []⟩ false .n .n))

def con_fragment_numbered : Con Tryz.prog := ⟨88, [.d (.int .i64)], [.d .bool], ⟨Tryz.f88, Tryz.func88, by kernel_rfl, by kernel_rfl⟩, m_fragment_numbered, fun a r h => mkM_ok (T := t_fragment_numbered) (N := 9) (own := []) (rng := []) (c := (codeOf Tryz.f88)) (h := h_fragment_numbered) (qs := [.tmp 2]) kMix Tryz.func88 (by kernel_rfl) (by kernel_rfl) (by kernel_rfl) (by kernel_rfl) a r (Eq.trans (by kernel_rfl) h)⟩
def t_option_All : Tab Tryz.prog := ⟨tes, ses, fes, bes, [con_bytes_Clone], [], fds, [], qes, ges, mes, []⟩
def h_option_All : Hint := (.s .n (.s .n (.s (.s .n (.b (.l (.a 11 10) ⟨[.o 5 26 (.sl (.int .u8))], [1, 9, 10]⟩ (.s .n (.s (.c .n .n) (.j ⟨[.o 5 26 (.sl (.int .u8))], [1, 9, 10, 11]⟩ false (.b (.s .n (.s .n (.c .n .n)))) .n)))))) (.s .n .n))))

def con_option_All : Con Tryz.prog := ⟨89, [.d P_api_Message, .d (.int .i64)], [.d (.sl (.sl (.int .u8)))], ⟨Tryz.f89, Tryz.func89, by kernel_rfl, by kernel_rfl⟩, m_option_All, fun a r h => mkM_ok (T := t_option_All) (N := 27) (own := [24]) (rng := [10]) (c := (codeOf Tryz.f89)) (h := h_option_All) (qs := [.tmp 4]) kMix Tryz.func89 (by kernel_rfl) (by kernel_rfl) (by kernel_rfl) (by kernel_rfl) a r (Eq.trans (by kernel_rfl) h)⟩
def t_block_sound : Tab Tryz.prog := ⟨tes, ses, fes, bes, [], [], fds, [], qes, ges, mes, []⟩
def h_block_sound : Hint := (.s .n (.j ⟨[.d 2 .bool], []⟩ false .n .n))

def con_block_sound : Con Tryz.prog := ⟨122, [.d P_api_Block], [.d .bool], ⟨Tryz.f122, Tryz.func122, by kernel_rfl, by kernel_rfl⟩, m_block_sound, fun a r h => mkM_ok (T := t_block_sound) (N := 21) (own := []) (rng := []) (c := (codeOf Tryz.f122)) (h := h_block_sound) (qs := [.tmp 2]) kMix Tryz.func122 (by kernel_rfl) (by kernel_rfl) (by kernel_rfl) (by kernel_rfl) a r (Eq.trans (by kernel_rfl) h)⟩
def t_block_length : Tab Tryz.prog := ⟨tes, ses, fes, bes, [], [], fds, [], qes, ges, mes, []⟩
def h_block_length : Hint := (.s .n (.s .n .n))

def con_block_length : Con Tryz.prog := ⟨123, [.d (.int .i64)], [.d (.int .i64)], ⟨Tryz.f123, Tryz.func123, by kernel_rfl, by kernel_rfl⟩, m_block_length, fun a r h => mkM_ok (T := t_block_length) (N := 5) (own := []) (rng := []) (c := (codeOf Tryz.f123)) (h := h_block_length) (qs := [.tmp 2]) kMix Tryz.func123 (by kernel_rfl) (by kernel_rfl) (by kernel_rfl) (by kernel_rfl) a r (Eq.trans (by kernel_rfl) h)⟩
def t_block_Cut : Tab Tryz.prog := ⟨tes, ses, fes, bes, [con_block_sound, con_block_length, con_bytes_Clone], [], fds, [], qes, ges, mes, []⟩
def h_block_Cut : Hint := (.s .n (.s (.s .n (.c (.s .n .n) .n)) (.s .n (.s (.j ⟨[.d 30 .bool], [0, 2, 9]⟩ false .n (.c (.s .n .n) .n)) (.s .n (.s .n .n))))))

def con_block_Cut : Con Tryz.prog := ⟨90, [.d (.sl (.int .u8)), .d (.int .i64), .d (.int .i64)], [.d (.sl (.int .u8)), .d .bool, .d (.int .i64)], ⟨Tryz.f90, Tryz.func90, by kernel_rfl, by kernel_rfl⟩, m_block_Cut, fun a r h => mkM_ok (T := t_block_Cut) (N := 47) (own := []) (rng := []) (c := (codeOf Tryz.f90)) (h := h_block_Cut) (qs := [.tmp 6, .tmp 7, .tmp 8]) kMix Tryz.func90 (by kernel_rfl) (by kernel_rfl) (by kernel_rfl) (by kernel_rfl) a r (Eq.trans (by kernel_rfl) h)⟩
def t_block_Value : Tab Tryz.prog := ⟨tes, ses, fes, bes, [con_block_sound, con_option_FromUint], [], fds, [], qes, ges, mes, []⟩
def h_block_Value : Hint := (.s .n (.s (.s .n (.c (.s .n .n) .n)) (.s .n (.j ⟨[.d 4 (.int .i64)], []⟩ false (.s .n (.c .n .n)) (.s .n .n)))))

def con_block_Value : Con Tryz.prog := ⟨91, [.d P_api_Block], [.d (.sl (.int .u8)), .d (.int .i64)], ⟨Tryz.f91, Tryz.func91, by kernel_rfl, by kernel_rfl⟩, m_block_Value, fun a r h => mkM_ok (T := t_block_Value) (N := 20) (own := []) (rng := []) (c := (codeOf Tryz.f91)) (h := h_block_Value) (qs := [.tmp 2, .tmp 3]) kMix Tryz.func91 (by kernel_rfl) (by kernel_rfl) (by kernel_rfl) (by kernel_rfl) a r (Eq.trans (by kernel_rfl) h)⟩
def t_fragment_copied : Tab Tryz.prog := ⟨tes, ses, fes, bes, [], [], fds, [], qes, ges, mes, []⟩
def h_fragment_copied : Hint := (.s .n (.s .n .n))

def con_fragment_copied : Con Tryz.prog := ⟨93, [.d (.sl (.int .u8))], [.d (.sl (.int .u8))], ⟨Tryz.f93, Tryz.func93, by kernel_rfl, by kernel_rfl⟩, m_fragment_copied, fun a r h => mkM_ok (T := t_fragment_copied) (N := 5) (own := []) (rng := []) (c := (codeOf Tryz.f93)) (h := h_fragment_copied) (qs := [.tmp 2]) kMix Tryz.func93 (by kernel_rfl) (by kernel_rfl) (by kernel_rfl) (by kernel_rfl) a r (Eq.trans (by kernel_rfl) h)⟩
def t_fragment_message : Tab Tryz.prog := ⟨tes, ses, fes, bes, [con_fragment_copied], [15, 33], fds, [], qes, ges, mes, []⟩
def h_fragment_message : Hint := (.s .n (.s .n (.s .n (.s (.s .n (.b (.l (.a 19 18) ⟨[.h 3 29 P_api_Message 4 75 P_api_Option], [2, 3, 17, 18]⟩ (.s .n (.s (.c .n .n) (.s (.b (.s .n .n)) .n)))))) (.s .n .n)))))

def con_fragment_message : Con Tryz.prog := ⟨92, [.d P_api_Message], [.d P_api_Message], ⟨Tryz.f92, Tryz.func92, by kernel_rfl, by kernel_rfl⟩, m_fragment_message, fun a r h => mkM_ok (T := t_fragment_message) (N := 36) (own := [32]) (rng := [18]) (c := (codeOf Tryz.f92)) (h := h_fragment_message) (qs := [.cell 2 29]) kMix Tryz.func92 (by kernel_rfl) (by kernel_rfl) (by kernel_rfl) (by kernel_rfl) a r (Eq.trans (by kernel_rfl) h)⟩
def t_fragment_Cut : Tab Tryz.prog := ⟨tes, ses, fes, bes, [con_fragment_numbered, con_option_All, con_block_Cut, con_block_Value, con_option_Set, con_fragment_message, con_fragment_copied], [], fds, [], qes, ges, mes, []⟩
def h_fragment_Cut : Hint := (.s .n (.s (.s .n (.c (.s .n .n) .n)) (.s (.s .n (.c (.s .n .n) .n)) (.s .n (.s (.s .n (.c (.s .n .n) .n)) (.s .n (.s (.s .n (.c (.s .n .n) .n)) (.s .n (.s .n (.s .n .n))))))))))

def con_fragment_Cut : Con Tryz.prog := ⟨50, [.d P_api_Message, .d (.int .i64), .d (.int .i64), .d (.int .i64)], [.d P_api_Message, .d (.int .i64)], ⟨Tryz.f50, Tryz.func50, by kernel_rfl, by kernel_rfl⟩, m_fragment_Cut, fun a r h => mkM_ok (T := t_fragment_Cut) (N := 60) (own := []) (rng := []) (c := (codeOf Tryz.f50)) (h := h_fragment_Cut) (qs := [.cell 8 29, .tmp 9]) kMix Tryz.func50 (by kernel_rfl) (by kernel_rfl) (by kernel_rfl) (by kernel_rfl) a r (Eq.trans (by kernel_rfl) h)⟩
def t_relay_Forward : Tab Tryz.prog := ⟨tes, ses, fes, bes, [con_coap_Encode, con_relay_Valid, con_relay_time, con_relay_cloned_o, con_relay_Protected, con_option_CacheKey, con_relay_has, con_cache_Lookup, con_relay_message, con_relay_copied, con_relay_Forward_1_o, con_relay_find, con_fragment_Cut], [14, 155, 4000019, 5000159], fds, [], qes, ges, mes, []⟩
def h_relay_Forward : Hint := (.s .n (.s (.s .n (.j ⟨[.d 60 .bool], [1, 3, 4, 6, 8]⟩ false .n (.c (.s .n .n) .n))) (.s .n (.s .n (.j ⟨[.d 15 (.sl (.int .u8))], [1, 3, 4, 6, 8, 14]⟩ false (.s .n (.c .n .n)) (.j ⟨[.b 8 25 P_api_Proxy], [1, 4, 6, 8, 14, 15]⟩ true (.j ⟨[.d 86 .bool], [1, 3, 4, 6, 8, 14, 15]⟩ false .n (.c (.s .n (.s .n (.c (.s .n (.s .n (.s .n .n))) .n))) .n)) (.s (.s .n (.c (.s .n .n) .n)) (.s .n (.s .n (.j ⟨[.b 19 3 (.int .i64)], [1, 4, 6, 8, 14, 15, 19, 20]⟩ false (.b (.l .g ⟨[.b 19 3 (.int .i64)], [1, 4, 6, 8, 14, 15, 19, 20]⟩ (.s (.s .n (.c .n .n)) (.b .n)))) (.s .n (.s .n (.s .n (.s .n (.s (.j ⟨[.d 184 .bool], [4, 8, 14, 19, 21]⟩ false .n (.c (.s .n .n) .n)) (.s .n (.s .n (.b (.l .g ⟨[.o 22 29 P_api_Message, .d 23 (.int .i64), .b 8 25 P_api_Proxy], [4, 8, 14, 19, 21]⟩ (.s (.b (.s .n (.s (.s .n (.c (.s .n .n) .n)) (.s .n .n)))) .n))))))))))))))))))))

def con_relay_Forward : Con Tryz.prog := ⟨20, [.d P_api_Proxy, .d (.int .i64), .d P_api_Message, .d (.int .i64)], [.d P_api_Proxy, .d (.sl P_api_Message), .d (.sl P_relay_Sent), .d (.int .i64)], ⟨Tryz.f20, Tryz.func20, by kernel_rfl, by kernel_rfl⟩, m_relay_Forward, fun a r h => mkM_ok (T := t_relay_Forward) (N := 211) (own := [154, 210]) (rng := []) (c := (codeOf Tryz.f20)) (h := h_relay_Forward) (qs := [.cell 8 25, .tmp 9, .tmp 10, .tmp 11]) kMix Tryz.func20 (by kernel_rfl) (by kernel_rfl) (by kernel_rfl) (by kernel_rfl) a r (Eq.trans (by kernel_rfl) h)⟩
def t_coreseclaw34_awake : Tab Tryz.prog := ⟨tes, ses, fes, bes, [con_relay_Forward], [], fds, [], qes, ges, mes, []⟩
def h_coreseclaw34_awake : Hint := (.s .n (.s .n (.j ⟨[.d 0 .bool], []⟩ false .n .n)))

def con_coreseclaw34_awake : Con Tryz.prog := ⟨8, [], [.d .bool], ⟨Tryz.f8, Tryz.func8, by kernel_rfl, by kernel_rfl⟩, m_coreseclaw34_awake, fun a r h => mkM_ok (T := t_coreseclaw34_awake) (N := 45) (own := []) (rng := []) (c := (codeOf Tryz.f8)) (h := h_coreseclaw34_awake) (qs := [.tmp 0]) kMix Tryz.func8 (by kernel_rfl) (by kernel_rfl) (by kernel_rfl) (by kernel_rfl) a r (Eq.trans (by kernel_rfl) h)⟩
def t_coresecmake_New : Tab Tryz.prog := ⟨tes, ses, fes, bes, [], [], fds, [], qes, ges, mes, []⟩
def h_coresecmake_New : Hint := (.s .n (.s .n .n))

def con_coresecmake_New : Con Tryz.prog := ⟨9, [.d (.sl (.int .i64))], [.p 77 P_coresecmake_Deck], ⟨Tryz.f9, Tryz.func9, by kernel_rfl, by kernel_rfl⟩, m_coresecmake_New, fun a r h => mkM_ok (T := t_coresecmake_New) (N := 6) (own := []) (rng := []) (c := (codeOf Tryz.f9)) (h := h_coresecmake_New) (qs := [.tmp 2]) kMix Tryz.func9 (by kernel_rfl) (by kernel_rfl) (by kernel_rfl) (by kernel_rfl) a r (Eq.trans (by kernel_rfl) h)⟩
def t_coresecmake_Mod : Tab Tryz.prog := ⟨tes, ses, fes, bes, [], [], fds, [], qes, ges, mes, []⟩
def h_coresecmake_Mod : Hint := (.s .n (.s .n (.j ⟨[.d 5 (.int .i64)], []⟩ false (.s .n (.c .n .n)) (.s .n .n))))

def con_coresecmake_Mod : Con Tryz.prog := ⟨17, [.d (.int .i64), .d (.int .i64)], [.d (.int .i64)], ⟨Tryz.f17, Tryz.func17, by kernel_rfl, by kernel_rfl⟩, m_coresecmake_Mod, fun a r h => mkM_ok (T := t_coresecmake_Mod) (N := 15) (own := []) (rng := []) (c := (codeOf Tryz.f17)) (h := h_coresecmake_Mod) (qs := [.tmp 4]) kMix Tryz.func17 (by kernel_rfl) (by kernel_rfl) (by kernel_rfl) (by kernel_rfl) a r (Eq.trans (by kernel_rfl) h)⟩
def t_coresecmake_Deck_Next : Tab Tryz.prog := ⟨tes, ses, fes, bes, [con_coresecmake_Mod], [], fds, [], qes, ges, mes, []⟩
def h_coresecmake_Deck_Next : Hint := (.s .n (.s (.s .n (.c (.s .n .n) .n)) (.s .n (.s .n .n))))

def con_coresecmake_Deck_Next : Con Tryz.prog := ⟨32, [.p 77 P_coresecmake_Deck, .d (.int .i64)], [.d (.int .i64)], ⟨Tryz.f32, Tryz.func32, by kernel_rfl, by kernel_rfl⟩, m_coresecmake_Deck_Next, fun a r h => mkM_ok (T := t_coresecmake_Deck_Next) (N := 35) (own := []) (rng := []) (c := (codeOf Tryz.f32)) (h := h_coresecmake_Deck_Next) (qs := [.tmp 4]) kMix Tryz.func32 (by kernel_rfl) (by kernel_rfl) (by kernel_rfl) (by kernel_rfl) a r (Eq.trans (by kernel_rfl) h)⟩
def t_coresecmake_Deck_Bytes : Tab Tryz.prog := ⟨tes, ses, fes, bes, [con_coresecmake_Deck_Next], [], fds, [], qes, ges, mes, []⟩
def h_coresecmake_Deck_Bytes : Hint := (.s .n (.s .n (.s (.s .n (.b (.l .g ⟨[.o 5 5 (.int .u8), .d 6 (.int .i64), .b 0 77 P_coresecmake_Deck], [0]⟩ (.s (.s .n (.c .n .n)) (.s (.b .n) .n))))) (.s .n .n))))

def con_coresecmake_Deck_Bytes : Con Tryz.prog := ⟨41, [.p 77 P_coresecmake_Deck, .d (.int .i64)], [.d (.sl (.int .u8))], ⟨Tryz.f41, Tryz.func41, by kernel_rfl, by kernel_rfl⟩, m_coresecmake_Deck_Bytes, fun a r h => mkM_ok (T := t_coresecmake_Deck_Bytes) (N := 22) (own := [20]) (rng := []) (c := (codeOf Tryz.f41)) (h := h_coresecmake_Deck_Bytes) (qs := [.tmp 4]) kMix Tryz.func41 (by kernel_rfl) (by kernel_rfl) (by kernel_rfl) (by kernel_rfl) a r (Eq.trans (by kernel_rfl) h)⟩
def t_coresecmake_Some : Tab Tryz.prog := ⟨tes, ses, fes, bes, [], [], fds, [], qes, ges, mes, []⟩
def h_coresecmake_Some : Hint := (.s .n (.s .n (.s (.s .n (.b (.l (.n 8 7) ⟨[.o 5 5 (.int .u8)], [0, 7]⟩ (.s .n (.s (.c .n .n) (.s (.b (.s .n .n)) .n)))))) (.s .n .n))))

def con_coresecmake_Some : Con Tryz.prog := ⟨42, [.d (.int .i64), .d (.int .i64)], [.d (.sl (.int .u8))], ⟨Tryz.f42, Tryz.func42, by kernel_rfl, by kernel_rfl⟩, m_coresecmake_Some, fun a r h => mkM_ok (T := t_coresecmake_Some) (N := 28) (own := [25]) (rng := []) (c := (codeOf Tryz.f42)) (h := h_coresecmake_Some) (qs := [.tmp 4]) kMix Tryz.func42 (by kernel_rfl) (by kernel_rfl) (by kernel_rfl) (by kernel_rfl) a r (Eq.trans (by kernel_rfl) h)⟩
def t_coresecref16_with : Tab Tryz.prog := ⟨tes, ses, fes, bes, [], [], fds, [], qes, ges, mes, []⟩
def h_coresecref16_with : Hint := (.s .n (.s .n (.s .n (.s (.s .n (.b (.l (.a 18 17) ⟨[.o 5 75 P_api_Option], [2, 4, 16, 17]⟩ (.s .n (.s (.c .n .n) (.s (.b (.s .n .n)) .n)))))) (.s .n (.s .n .n))))))

def con_coresecref16_with : Con Tryz.prog := ⟨65, [.d P_api_Message, .d (.sl P_api_Option)], [.d P_api_Message], ⟨Tryz.f65, Tryz.func65, by kernel_rfl, by kernel_rfl⟩, m_coresecref16_with, fun a r h => mkM_ok (T := t_coresecref16_with) (N := 35) (own := [30]) (rng := [17]) (c := (codeOf Tryz.f65)) (h := h_coresecref16_with) (qs := [.cell 4 29]) kMix Tryz.func65 (by kernel_rfl) (by kernel_rfl) (by kernel_rfl) (by kernel_rfl) a r (Eq.trans (by kernel_rfl) h)⟩
def t_coresecref16_Set : Tab Tryz.prog := ⟨tes, ses, fes, bes, [con_coresecref16_with], [], fds, [], qes, ges, mes, []⟩
def h_coresecref16_Set : Hint := (.s .n (.s .n (.s (.s .n (.b (.l (.a 17 16) ⟨[.o 7 75 P_api_Option], [1, 2, 3, 6, 15, 16]⟩ (.s .n (.s (.c .n .n) (.j ⟨[.o 7 75 P_api_Option], [1, 2, 3, 6, 15, 16, 17]⟩ false (.b (.s .n (.s .n (.c .n .n)))) .n)))))) (.s (.s .n (.b (.l (.a 32 31) ⟨[.o 7 75 P_api_Option], [1, 3, 6, 30, 31]⟩ (.s .n (.s (.c .n .n) (.s (.b (.s .n .n)) .n)))))) (.s (.s .n (.b (.l (.a 46 45) ⟨[.o 7 75 P_api_Option], [1, 3, 6, 44, 45]⟩ (.s .n (.s (.c .n .n) (.j ⟨[.o 7 75 P_api_Option], [1, 3, 6, 44, 45, 46]⟩ false (.b (.s .n (.s .n (.c .n .n)))) .n)))))) (.s .n .n))))))

def con_coresecref16_Set : Con Tryz.prog := ⟨27, [.d P_api_Message, .d (.int .i64), .d (.sl (.sl (.int .u8)))], [.d P_api_Message], ⟨Tryz.f27, Tryz.func27, by kernel_rfl, by kernel_rfl⟩, m_coresecref16_Set, fun a r h => mkM_ok (T := t_coresecref16_Set) (N := 62) (own := [28, 41, 57]) (rng := [16, 31, 45]) (c := (codeOf Tryz.f27)) (h := h_coresecref16_Set) (qs := [.cell 6 29]) kMix Tryz.func27 (by kernel_rfl) (by kernel_rfl) (by kernel_rfl) (by kernel_rfl) a r (Eq.trans (by kernel_rfl) h)⟩
def t_coreseclaw34_request : Tab Tryz.prog := ⟨tes, ses, fes, bes, [con_coresecmake_Deck_Next, con_coresecmake_Deck_Bytes, con_coresecmake_Some, con_coresecref16_Set], [], fds, [], qes, ges, mes, []⟩
def h_coreseclaw34_request : Hint := (.s .n (.s .n (.s .n (.j ⟨[.b 0 77 P_coresecmake_Deck, .b 3 29 P_api_Message], [0, 2, 3]⟩ false (.s .n (.b (.s .n (.c .n (.s .n (.c .n .n)))))) (.s .n .n)))))

def con_coreseclaw34_request : Con Tryz.prog := ⟨19, [.p 77 P_coresecmake_Deck], [.d P_api_Message], ⟨Tryz.f19, Tryz.func19, by kernel_rfl, by kernel_rfl⟩, m_coreseclaw34_request, fun a r h => mkM_ok (T := t_coreseclaw34_request) (N := 47) (own := []) (rng := []) (c := (codeOf Tryz.f19)) (h := h_coreseclaw34_request) (qs := [.cell 2 29]) kMix Tryz.func19 (by kernel_rfl) (by kernel_rfl) (by kernel_rfl) (by kernel_rfl) a r (Eq.trans (by kernel_rfl) h)⟩
def t_coresecref15_extended : Tab Tryz.prog := ⟨tes, ses, fes, bes, [], [], fds, [], qes, ges, mes, []⟩
def h_coresecref15_extended : Hint := (.s .n (.s (.b (.s .n (.c (.s .n .n) (.s .n (.c (.s .n .n) .n))))) (.s .n .n)))

def con_coresecref15_extended : Con Tryz.prog := ⟨124, [.d (.int .i64)], [.d (.int .i64), .d (.sl (.int .u8))], ⟨Tryz.f124, Tryz.func124, by kernel_rfl, by kernel_rfl⟩, m_coresecref15_extended, fun a r h => mkM_ok (T := t_coresecref15_extended) (N := 23) (own := []) (rng := []) (c := (codeOf Tryz.f124)) (h := h_coresecref15_extended) (qs := [.tmp 2, .tmp 3]) kMix Tryz.func124 (by kernel_rfl) (by kernel_rfl) (by kernel_rfl) (by kernel_rfl) a r (Eq.trans (by kernel_rfl) h)⟩
def t_coresecref15_Raw : Tab Tryz.prog := ⟨tes, ses, fes, bes, [con_coresecref15_extended], [], fds, [], qes, ges, mes, []⟩
def h_coresecref15_Raw : Hint := (.s .n (.s .n (.s .n (.s .n (.s (.s .n (.b (.l (.a 38 37) ⟨[.o 3 5 (.int .u8), .d 4 (.int .i64)], [1, 36, 37]⟩ (.s .n (.s (.c .n .n) (.s (.b (.s .n (.s .n (.s .n (.s .n .n))))) .n)))))) (.j ⟨[.o 3 5 (.int .u8)], []⟩ false (.s .n (.c .n .n)) (.s .n .n)))))))

def con_coresecref15_Raw : Con Tryz.prog := ⟨94, [.d P_api_Message], [.d (.sl (.int .u8))], ⟨Tryz.f94, Tryz.func94, by kernel_rfl, by kernel_rfl⟩, m_coresecref15_Raw, fun a r h => mkM_ok (T := t_coresecref15_Raw) (N := 86) (own := [30, 34, 64, 66, 68, 71, 81, 84]) (rng := [37]) (c := (codeOf Tryz.f94)) (h := h_coresecref15_Raw) (qs := [.tmp 2]) kMix Tryz.func94 (by kernel_rfl) (by kernel_rfl) (by kernel_rfl) (by kernel_rfl) a r (Eq.trans (by kernel_rfl) h)⟩
def t_coresecref15_Valid : Tab Tryz.prog := ⟨tes, ses, fes, bes, [con_coresecref15_Raw], [], fds, [], qes, ges, mes, []⟩
def h_coresecref15_Valid : Hint := (.s .n (.s (.j ⟨[.d 52 .bool], [1]⟩ false .n (.c (.s .n .n) .n)) (.s .n (.s (.j ⟨[.d 69 .bool], [1]⟩ false .n (.c (.s .n .n) .n)) (.s .n (.s (.s .n (.b (.l (.a 73 72) ⟨[.d 4 (.int .i64)], [1, 71, 72]⟩ (.s .n (.s (.c .n .n) (.s (.b (.s .n (.s (.j ⟨[.d 91 .bool], [1, 6, 71, 72, 73]⟩ false .n (.c (.s .n .n) .n)) .n))) .n)))))) (.s (.j ⟨[.d 121 .bool], [1]⟩ false .n (.c (.s .n .n) .n)) (.s .n .n))))))))

def con_coresecref15_Valid : Con Tryz.prog := ⟨75, [.d P_api_Message], [.d .bool], ⟨Tryz.f75, Tryz.func75, by kernel_rfl, by kernel_rfl⟩, m_coresecref15_Valid, fun a r h => mkM_ok (T := t_coresecref15_Valid) (N := 126) (own := []) (rng := [72]) (c := (codeOf Tryz.f75)) (h := h_coresecref15_Valid) (qs := [.tmp 2]) kMix Tryz.func75 (by kernel_rfl) (by kernel_rfl) (by kernel_rfl) (by kernel_rfl) a r (Eq.trans (by kernel_rfl) h)⟩
def t_coresecref15_Encode : Tab Tryz.prog := ⟨tes, ses, fes, bes, [con_coresecref15_Valid, con_coresecref15_Raw], [], fds, [], qes, ges, mes, []⟩
def h_coresecref15_Encode : Hint := (.s .n (.s (.s .n (.c (.s .n .n) .n)) (.s .n .n)))

def con_coresecref15_Encode : Con Tryz.prog := ⟨51, [.d P_api_Message], [.d (.sl (.int .u8)), .d (.int .i64)], ⟨Tryz.f51, Tryz.func51, by kernel_rfl, by kernel_rfl⟩, m_coresecref15_Encode, fun a r h => mkM_ok (T := t_coresecref15_Encode) (N := 9) (own := []) (rng := []) (c := (codeOf Tryz.f51)) (h := h_coresecref15_Encode) (qs := [.tmp 2, .tmp 3]) kMix Tryz.func51 (by kernel_rfl) (by kernel_rfl) (by kernel_rfl) (by kernel_rfl) a r (Eq.trans (by kernel_rfl) h)⟩
def t_coresecref20_keyed : Tab Tryz.prog := ⟨tes, ses, fes, bes, [], [], fds, [], qes, ges, mes, []⟩
def h_coresecref20_keyed : Hint := (.s .n (.j ⟨[.d 2 .bool], []⟩ false .n .n))

def con_coresecref20_keyed : Con Tryz.prog := ⟨74, [.d (.sl (.int .u8))], [.d .bool], ⟨Tryz.f74, Tryz.func74, by kernel_rfl, by kernel_rfl⟩, m_coresecref20_keyed, fun a r h => mkM_ok (T := t_coresecref20_keyed) (N := 11) (own := []) (rng := []) (c := (codeOf Tryz.f74)) (h := h_coresecref20_keyed) (qs := [.tmp 2]) kMix Tryz.func74 (by kernel_rfl) (by kernel_rfl) (by kernel_rfl) (by kernel_rfl) a r (Eq.trans (by kernel_rfl) h)⟩
def t_coresecref15_Response : Tab Tryz.prog := ⟨tes, ses, fes, bes, [], [], fds, [], qes, ges, mes, []⟩
def h_coresecref15_Response : Hint := (.s .n (.j ⟨[.d 2 .bool], []⟩ false .n .n))

def con_coresecref15_Response : Con Tryz.prog := ⟨76, [.d (.int .i64)], [.d .bool], ⟨Tryz.f76, Tryz.func76, by kernel_rfl, by kernel_rfl⟩, m_coresecref15_Response, fun a r h => mkM_ok (T := t_coresecref15_Response) (N := 17) (own := []) (rng := []) (c := (codeOf Tryz.f76)) (h := h_coresecref15_Response) (qs := [.tmp 2]) kMix Tryz.func76 (by kernel_rfl) (by kernel_rfl) (by kernel_rfl) (by kernel_rfl) a r (Eq.trans (by kernel_rfl) h)⟩
def t_coresecref20_Valid : Tab Tryz.prog := ⟨tes, ses, fes, bes, [con_coresecref20_keyed, con_coresecref15_Valid, con_coresecref15_Response], [], fds, [], qes, ges, mes, []⟩
def h_coresecref20_Valid : Hint := (.s .n (.s (.s .n (.c (.s .n .n) .n)) (.s (.s .n (.b (.l (.a 13 12) ⟨[], [0, 11, 12]⟩ (.s .n (.s (.c .n .n) (.s (.b (.s .n (.s .n (.s (.j ⟨[.d 60 .bool], [0, 3, 4, 11, 12, 13]⟩ false .n (.c (.s .n .n) .n)) (.s .n (.b (.l (.a 65 64) ⟨[], [0, 4, 11, 12, 13, 63, 64]⟩ (.s .n (.s (.c .n .n) (.s (.b (.s .n (.s .n (.c (.s .n .n) .n)))) .n)))))))))) .n)))))) (.s .n .n))))

def con_coresecref20_Valid : Con Tryz.prog := ⟨35, [.d (.sl P_api_Cached)], [.d .bool], ⟨Tryz.f35, Tryz.func35, by kernel_rfl, by kernel_rfl⟩, m_coresecref20_Valid, fun a r h => mkM_ok (T := t_coresecref20_Valid) (N := 78) (own := []) (rng := [12, 64]) (c := (codeOf Tryz.f35)) (h := h_coresecref20_Valid) (qs := [.tmp 2]) kMix Tryz.func35 (by kernel_rfl) (by kernel_rfl) (by kernel_rfl) (by kernel_rfl) a r (Eq.trans (by kernel_rfl) h)⟩
def t_coresecref01_Compare : Tab Tryz.prog := ⟨tes, ses, fes, bes, [], [], fds, [], qes, ges, mes, []⟩
def h_coresecref01_Compare : Hint := (.s .n (.s (.s .n (.b (.l .g ⟨[.d 5 (.int .i64)], [0, 1]⟩ (.s (.j ⟨[.d 15 .bool], [0, 1, 5]⟩ false .n (.c .n .n)) (.s (.b (.s .n (.c (.s (.s .n (.c (.s .n .n) .n)) (.s .n .n)) .n))) .n))))) (.s (.b (.s .n (.c (.s .n .n) (.s .n (.c (.s .n .n) .n))))) (.s .n .n))))

def con_coresecref01_Compare : Con Tryz.prog := ⟨68, [.d (.sl (.int .u8)), .d (.sl (.int .u8))], [.d (.int .i64)], ⟨Tryz.f68, Tryz.func68, by kernel_rfl, by kernel_rfl⟩, m_coresecref01_Compare, fun a r h => mkM_ok (T := t_coresecref01_Compare) (N := 48) (own := []) (rng := []) (c := (codeOf Tryz.f68)) (h := h_coresecref01_Compare) (qs := [.tmp 4]) kMix Tryz.func68 (by kernel_rfl) (by kernel_rfl) (by kernel_rfl) (by kernel_rfl) a r (Eq.trans (by kernel_rfl) h)⟩
def t_coresecref26_Equal : Tab Tryz.prog := ⟨tes, ses, fes, bes, [con_coresecref01_Compare], [], fds, [], qes, ges, mes, []⟩
def h_coresecref26_Equal : Hint := (.s .n (.j ⟨[.d 4 .bool], []⟩ false .n .n))

def con_coresecref26_Equal : Con Tryz.prog := ⟨29, [.d (.sl (.int .u8)), .d (.sl (.int .u8))], [.d .bool], ⟨Tryz.f29, Tryz.func29, by kernel_rfl, by kernel_rfl⟩, m_coresecref26_Equal, fun a r h => mkM_ok (T := t_coresecref26_Equal) (N := 16) (own := []) (rng := []) (c := (codeOf Tryz.f29)) (h := h_coresecref26_Equal) (qs := [.tmp 4]) kMix Tryz.func29 (by kernel_rfl) (by kernel_rfl) (by kernel_rfl) (by kernel_rfl) a r (Eq.trans (by kernel_rfl) h)⟩
def t_coresecref34_Valid : Tab Tryz.prog := ⟨tes, ses, fes, bes, [con_coresecref20_Valid, con_coresecref26_Equal], [], fds, [], qes, ges, mes, []⟩
def h_coresecref34_Valid : Hint := (.s .n (.s (.j ⟨[.d 35 .bool], [1]⟩ false .n (.c (.s .n .n) .n)) (.s (.s .n (.b (.l (.a 39 38) ⟨[], [1, 37, 38]⟩ (.s .n (.s (.c .n .n) (.s (.b (.s .n (.s (.j ⟨[.d 63 .bool], [1, 3, 4, 37, 38, 39]⟩ false .n (.c (.s .n .n) .n)) (.s .n (.b (.l .g ⟨[.d 5 (.int .i64)], [1, 3, 4, 37, 38, 39]⟩ (.s (.s .n (.c .n .n)) (.s (.b (.s .n (.c (.s .n .n) .n))) .n)))))))) .n)))))) (.s .n .n))))

def con_coresecref34_Valid : Con Tryz.prog := ⟨12, [.d P_api_Proxy], [.d .bool], ⟨Tryz.f12, Tryz.func12, by kernel_rfl, by kernel_rfl⟩, m_coresecref34_Valid, fun a r h => mkM_ok (T := t_coresecref34_Valid) (N := 79) (own := []) (rng := [38]) (c := (codeOf Tryz.f12)) (h := h_coresecref34_Valid) (qs := [.tmp 2]) kMix Tryz.func12 (by kernel_rfl) (by kernel_rfl) (by kernel_rfl) (by kernel_rfl) a r (Eq.trans (by kernel_rfl) h)⟩
def t_coresecref16_All : Tab Tryz.prog := ⟨tes, ses, fes, bes, [], [], fds, [], qes, ges, mes, []⟩
def h_coresecref16_All : Hint := (.s .n (.s .n (.s (.s .n (.b (.l (.a 11 10) ⟨[.o 5 26 (.sl (.int .u8))], [1, 9, 10]⟩ (.s .n (.s (.c .n .n) (.j ⟨[.o 5 26 (.sl (.int .u8))], [1, 9, 10, 11]⟩ false (.b (.s .n (.s .n (.c .n .n)))) .n)))))) (.s .n .n))))

def con_coresecref16_All : Con Tryz.prog := ⟨78, [.d P_api_Message, .d (.int .i64)], [.d (.sl (.sl (.int .u8)))], ⟨Tryz.f78, Tryz.func78, by kernel_rfl, by kernel_rfl⟩, m_coresecref16_All, fun a r h => mkM_ok (T := t_coresecref16_All) (N := 27) (own := [24]) (rng := [10]) (c := (codeOf Tryz.f78)) (h := h_coresecref16_All) (qs := [.tmp 4]) kMix Tryz.func78 (by kernel_rfl) (by kernel_rfl) (by kernel_rfl) (by kernel_rfl) a r (Eq.trans (by kernel_rfl) h)⟩
def t_coresecref16_Get : Tab Tryz.prog := ⟨tes, ses, fes, bes, [con_coresecref16_All], [], fds, [], qes, ges, mes, []⟩
def h_coresecref16_Get : Hint := (.s .n (.s .n (.s (.s .n (.c (.s .n .n) .n)) (.s .n .n))))

def con_coresecref16_Get : Con Tryz.prog := ⟨37, [.d P_api_Message, .d (.int .i64)], [.d (.sl (.int .u8)), .d .bool], ⟨Tryz.f37, Tryz.func37, by kernel_rfl, by kernel_rfl⟩, m_coresecref16_Get, fun a r h => mkM_ok (T := t_coresecref16_Get) (N := 16) (own := []) (rng := []) (c := (codeOf Tryz.f37)) (h := h_coresecref16_Get) (qs := [.tmp 4, .tmp 5]) kMix Tryz.func37 (by kernel_rfl) (by kernel_rfl) (by kernel_rfl) (by kernel_rfl) a r (Eq.trans (by kernel_rfl) h)⟩
def t_coresecref34_Protected : Tab Tryz.prog := ⟨tes, ses, fes, bes, [con_coresecref16_Get], [], fds, [], qes, ges, mes, []⟩
def h_coresecref34_Protected : Hint := (.s .n (.s .n (.s .n .n)))

def con_coresecref34_Protected : Con Tryz.prog := ⟨14, [.d P_api_Message], [.d .bool], ⟨Tryz.f14, Tryz.func14, by kernel_rfl, by kernel_rfl⟩, m_coresecref34_Protected, fun a r h => mkM_ok (T := t_coresecref34_Protected) (N := 11) (own := []) (rng := []) (c := (codeOf Tryz.f14)) (h := h_coresecref34_Protected) (qs := [.tmp 2]) kMix Tryz.func14 (by kernel_rfl) (by kernel_rfl) (by kernel_rfl) (by kernel_rfl) a r (Eq.trans (by kernel_rfl) h)⟩
def t_coresecref16_in : Tab Tryz.prog := ⟨tes, ses, fes, bes, [], [], fds, [], qes, ges, mes, []⟩
def h_coresecref16_in : Hint := (.s .n (.j ⟨[.d 2 .bool], []⟩ false .n .n))

def con_coresecref16_in : Con Tryz.prog := ⟨125, [.d (.int .i64)], [.d .bool], ⟨Tryz.f125, Tryz.func125, by kernel_rfl, by kernel_rfl⟩, m_coresecref16_in, fun a r h => mkM_ok (T := t_coresecref16_in) (N := 9) (own := []) (rng := []) (c := (codeOf Tryz.f125)) (h := h_coresecref16_in) (qs := [.tmp 2]) kMix Tryz.func125 (by kernel_rfl) (by kernel_rfl) (by kernel_rfl) (by kernel_rfl) a r (Eq.trans (by kernel_rfl) h)⟩
def t_coresecref16_NoCacheKey : Tab Tryz.prog := ⟨tes, ses, fes, bes, [con_coresecref16_in], [], fds, [], qes, ges, mes, []⟩
def h_coresecref16_NoCacheKey : Hint := (.s .n (.j ⟨[.d 2 .bool], []⟩ false .n .n))

def con_coresecref16_NoCacheKey : Con Tryz.prog := ⟨96, [.d (.int .i64)], [.d .bool], ⟨Tryz.f96, Tryz.func96, by kernel_rfl, by kernel_rfl⟩, m_coresecref16_NoCacheKey, fun a r h => mkM_ok (T := t_coresecref16_NoCacheKey) (N := 10) (own := []) (rng := []) (c := (codeOf Tryz.f96)) (h := h_coresecref16_NoCacheKey) (qs := [.tmp 2]) kMix Tryz.func96 (by kernel_rfl) (by kernel_rfl) (by kernel_rfl) (by kernel_rfl) a r (Eq.trans (by kernel_rfl) h)⟩
def t_coresecref01_Int : Tab Tryz.prog := ⟨tes, ses, fes, bes, [], [], fds, [], qes, ges, mes, []⟩
def h_coresecref01_Int : Hint := (.s .n (.s (.s .n (.c (.s .n .n) .n)) (.s .n .n)))

def con_coresecref01_Int : Con Tryz.prog := ⟨97, [.d (.int .i64)], [.d .tree], ⟨Tryz.f97, Tryz.func97, by kernel_rfl, by kernel_rfl⟩, m_coresecref01_Int, fun a r h => mkM_ok (T := t_coresecref01_Int) (N := 12) (own := []) (rng := []) (c := (codeOf Tryz.f97)) (h := h_coresecref01_Int) (qs := [.cell 2 117]) kMix Tryz.func97 (by kernel_rfl) (by kernel_rfl) (by kernel_rfl) (by kernel_rfl) a r (Eq.trans (by kernel_rfl) h)⟩
def t_coresecref01_Bytes : Tab Tryz.prog := ⟨tes, ses, fes, bes, [], [], fds, [], qes, ges, mes, []⟩
def h_coresecref01_Bytes : Hint := (.s .n (.s .n .n))

def con_coresecref01_Bytes : Con Tryz.prog := ⟨98, [.d (.sl (.int .u8))], [.d .tree], ⟨Tryz.f98, Tryz.func98, by kernel_rfl, by kernel_rfl⟩, m_coresecref01_Bytes, fun a r h => mkM_ok (T := t_coresecref01_Bytes) (N := 6) (own := []) (rng := []) (c := (codeOf Tryz.f98)) (h := h_coresecref01_Bytes) (qs := [.cell 2 117]) kMix Tryz.func98 (by kernel_rfl) (by kernel_rfl) (by kernel_rfl) (by kernel_rfl) a r (Eq.trans (by kernel_rfl) h)⟩
def t_coresecref01_IsNaN : Tab Tryz.prog := ⟨tes, ses, fes, bes, [], [], fds, [], qes, ges, mes, []⟩
def h_coresecref01_IsNaN : Hint := (.s .n (.j ⟨[.d 2 .bool], []⟩ false .n .n))

def con_coresecref01_IsNaN : Con Tryz.prog := ⟨146, [.d (.int .u64)], [.d .bool], ⟨Tryz.f146, Tryz.func146, by kernel_rfl, by kernel_rfl⟩, m_coresecref01_IsNaN, fun a r h => mkM_ok (T := t_coresecref01_IsNaN) (N := 12) (own := []) (rng := []) (c := (codeOf Tryz.f146)) (h := h_coresecref01_IsNaN) (qs := [.tmp 2]) kMix Tryz.func146 (by kernel_rfl) (by kernel_rfl) (by kernel_rfl) (by kernel_rfl) a r (Eq.trans (by kernel_rfl) h)⟩
def t_coresecref01_Head : Tab Tryz.prog := ⟨tes, ses, fes, bes, [], [], fds, [], qes, ges, mes, []⟩
def h_coresecref01_Head : Hint := (.s .n (.s .n (.s .n (.j ⟨[.o 5 5 (.int .u8), .d 6 (.int .i64)], [1]⟩ true (.b (.s .n (.c (.s .n .n) (.s .n (.c .n (.s .n (.c .n (.s .n (.c .n .n))))))))) (.s (.s .n (.b (.l .g ⟨[.o 5 5 (.int .u8), .d 7 (.int .i64)], [1]⟩ (.s (.s .n (.c .n .n)) (.s (.b .n) .n))))) (.s .n .n))))))

def con_coresecref01_Head : Con Tryz.prog := ⟨135, [.d (.int .i64), .d (.int .u64)], [.d (.sl (.int .u8))], ⟨Tryz.f135, Tryz.func135, by kernel_rfl, by kernel_rfl⟩, m_coresecref01_Head, fun a r h => mkM_ok (T := t_coresecref01_Head) (N := 66) (own := [12, 64]) (rng := []) (c := (codeOf Tryz.f135)) (h := h_coresecref01_Head) (qs := [.tmp 4]) kMix Tryz.func135 (by kernel_rfl) (by kernel_rfl) (by kernel_rfl) (by kernel_rfl) a r (Eq.trans (by kernel_rfl) h)⟩
def t_coresecref01_Head_o : Tab Tryz.prog := ⟨tes, ses, fes, bes, [], [], fds, [], qes, ges, mes, []⟩
def h_coresecref01_Head_o : Hint := (.s .n (.s .n (.s .n (.j ⟨[.o 5 5 (.int .u8), .d 6 (.int .i64)], [1]⟩ true (.b (.s .n (.c (.s .n .n) (.s .n (.c .n (.s .n (.c .n (.s .n (.c .n .n))))))))) (.s (.s .n (.b (.l .g ⟨[.o 5 5 (.int .u8), .d 7 (.int .i64)], [1]⟩ (.s (.s .n (.c .n .n)) (.s (.b .n) .n))))) (.s .n .n))))))

def con_coresecref01_Head_o : Con Tryz.prog := ⟨135, [.d (.int .i64), .d (.int .u64)], [.o 5 (.int .u8)], ⟨Tryz.f135, Tryz.func135, by kernel_rfl, by kernel_rfl⟩, m_coresecref01_Head_o, fun a r h => mkM_ok (T := t_coresecref01_Head_o) (N := 66) (own := [12, 28, 64]) (rng := []) (c := (codeOf Tryz.f135)) (h := h_coresecref01_Head_o) (qs := [.tmp 4]) kMix Tryz.func135 (by kernel_rfl) (by kernel_rfl) (by kernel_rfl) (by kernel_rfl) a r (Eq.trans (by kernel_rfl) h)⟩
def t_coresecref01_Narrow : Tab Tryz.prog := ⟨tes, ses, fes, bes, [], [], fds, [], qes, ges, mes, []⟩
def h_coresecref01_Narrow : Hint := (.s .n (.s .n (.s .n (.s (.b (.s .n (.c (.s .n .n) (.s .n (.c (.s .n .n) .n))))) (.s .n (.s (.b (.s .n (.c (.s .n .n) (.s .n (.c (.s .n .n) .n))))) (.s .n (.s (.s .n (.c (.s .n .n) .n)) (.s .n .n)))))))))

def con_coresecref01_Narrow : Con Tryz.prog := ⟨147, [.d (.int .u64), .d (.int .i64), .d (.int .i64)], [.d (.int .u64), .d .bool], ⟨Tryz.f147, Tryz.func147, by kernel_rfl, by kernel_rfl⟩, m_coresecref01_Narrow, fun a r h => mkM_ok (T := t_coresecref01_Narrow) (N := 109) (own := []) (rng := []) (c := (codeOf Tryz.f147)) (h := h_coresecref01_Narrow) (qs := [.tmp 6, .tmp 7]) kMix Tryz.func147 (by kernel_rfl) (by kernel_rfl) (by kernel_rfl) (by kernel_rfl) a r (Eq.trans (by kernel_rfl) h)⟩
def t_coresecref01_float : Tab Tryz.prog := ⟨tes, ses, fes, bes, [con_coresecref01_IsNaN, con_coresecref01_Narrow], [], fds, [], qes, ges, mes, []⟩
def h_coresecref01_float : Hint := (.s .n (.s (.s .n (.c (.s .n .n) .n)) (.s (.s .n (.s .n (.c (.s .n .n) .n))) (.s (.s .n (.s .n (.c (.s .n .n) .n))) (.s .n (.s (.s .n (.b (.l .g ⟨[.o 7 5 (.int .u8), .d 8 (.int .i64)], [0]⟩ (.s (.s .n (.c .n .n)) (.s (.b .n) .n))))) (.s .n .n)))))))

def con_coresecref01_float : Con Tryz.prog := ⟨136, [.d (.int .u64)], [.d (.sl (.int .u8))], ⟨Tryz.f136, Tryz.func136, by kernel_rfl, by kernel_rfl⟩, m_coresecref01_float, fun a r h => mkM_ok (T := t_coresecref01_float) (N := 57) (own := [42, 55]) (rng := []) (c := (codeOf Tryz.f136)) (h := h_coresecref01_float) (qs := [.tmp 2]) kMix Tryz.func136 (by kernel_rfl) (by kernel_rfl) (by kernel_rfl) (by kernel_rfl) a r (Eq.trans (by kernel_rfl) h)⟩
def cz_coresecref01_Raw (mf : cur [.d .tree] (Option (tupR (([.d (.sl (.int .u8))] : List RK) ++ outs [.d .tree])))) (okf : ∀ a r, app1 [.d .tree] mf a = some r → OKc Tryz.prog 127 [.d .tree] [.d (.sl (.int .u8))] a (toHL _ r)) : Con Tryz.prog := ⟨127, [.d .tree], [.d (.sl (.int .u8))], ⟨Tryz.f127, Tryz.func127, by kernel_rfl, by kernel_rfl⟩, mf, okf⟩
def t_coresecref01_Raw (mf : cur [.d .tree] (Option (tupR (([.d (.sl (.int .u8))] : List RK) ++ outs [.d .tree])))) (okf : ∀ a r, app1 [.d .tree] mf a = some r → OKc Tryz.prog 127 [.d .tree] [.d (.sl (.int .u8))] a (toHL _ r)) : Tab Tryz.prog := ⟨tes, ses, fes, bes, [con_coresecref01_Head_o, con_coresecref01_float, cz_coresecref01_Raw mf okf], [], fds, [], qes, ges, mes, []⟩
def h_coresecref01_Raw : Hint := (.s .n (.s .n (.j ⟨[.o 3 5 (.int .u8)], [1]⟩ true (.s .n (.b (.j ⟨[.d 11 .bool], [1, 7]⟩ false (.s .n (.c .n .n)) (.c (.s .n .n) (.j ⟨[.d 19 .bool], [1, 7]⟩ false (.s .n (.c .n .n)) (.c (.s .n .n) (.s .n (.c .n (.s .n (.c .n (.s .n (.c .n (.s .n (.c (.s (.s .n (.c (.s .n .n) .n)) (.s .n .n)) (.s .n .n))))))))))))))) (.s (.s .n (.b (.l (.a 69 68) ⟨[.o 3 5 (.int .u8)], [67, 68]⟩ (.s .n (.s (.c .n .n) (.s (.b (.s .n .n)) .n)))))) (.s .n .n)))))
theorem ob_coresecref01_Raw (mf : cur [.d .tree] (Option (tupR (([.d (.sl (.int .u8))] : List RK) ++ outs [.d .tree])))) (okf : ∀ a r, app1 [.d .tree] mf a = some r → OKc Tryz.prog 127 [.d .tree] [.d (.sl (.int .u8))] a (toHL _ r)) : ∀ a r, app1 [.d .tree] (b_coresecref01_Raw mf) a = some r → OKc Tryz.prog 127 [.d .tree] [.d (.sl (.int .u8))] a (toHL _ r) := fun a r h => mkM_ok (T := t_coresecref01_Raw mf okf) (N := 79) (own := [76]) (rng := [68]) (c := (codeOf Tryz.f127)) (h := h_coresecref01_Raw) (qs := [.tmp 2]) (ps := [.d .tree]) (rs := [.d (.sl (.int .u8))]) kMix Tryz.func127 (by kernel_rfl) (by kernel_rfl) (by kernel_rfl) (by kernel_rfl) a r (Eq.trans (by kernel_rfl) h)
theorem on_coresecref01_Raw : ∀ (n : Nat) a r, app1 [.d .tree] (n_coresecref01_Raw n) a = some r → OKc Tryz.prog 127 [.d .tree] [.d (.sl (.int .u8))] a (toHL _ r)
  | 0, a, r, h => by cases (show (none : Option _) = some r from h)
  | n + 1, a, r, h => ob_coresecref01_Raw (n_coresecref01_Raw n) (on_coresecref01_Raw n) a r h
def con_coresecref01_Raw : Con Tryz.prog := ⟨127, [.d .tree], [.d (.sl (.int .u8))], ⟨Tryz.f127, Tryz.func127, by kernel_rfl, by kernel_rfl⟩, m_coresecref01_Raw, fun a r h => on_coresecref01_Raw 40 a r h⟩

def cz_coresecref01_left (mf : cur [.d .tree, .d (.int .i64), .d (.int .i64)] (Option (tupR (([.d (.int .i64)] : List RK) ++ outs [.d .tree, .d (.int .i64), .d (.int .i64)])))) (okf : ∀ a r, app1 [.d .tree, .d (.int .i64), .d (.int .i64)] mf a = some r → OKc Tryz.prog 134 [.d .tree, .d (.int .i64), .d (.int .i64)] [.d (.int .i64)] a (toHL _ r)) : Con Tryz.prog := ⟨134, [.d .tree, .d (.int .i64), .d (.int .i64)], [.d (.int .i64)], ⟨Tryz.f134, Tryz.func134, by kernel_rfl, by kernel_rfl⟩, mf, okf⟩
def t_coresecref01_left (mf : cur [.d .tree, .d (.int .i64), .d (.int .i64)] (Option (tupR (([.d (.int .i64)] : List RK) ++ outs [.d .tree, .d (.int .i64), .d (.int .i64)])))) (okf : ∀ a r, app1 [.d .tree, .d (.int .i64), .d (.int .i64)] mf a = some r → OKc Tryz.prog 134 [.d .tree, .d (.int .i64), .d (.int .i64)] [.d (.int .i64)] a (toHL _ r)) : Tab Tryz.prog := ⟨tes, ses, fes, bes, [con_unicode_utf8_Valid, con_coresecref01_IsNaN, cz_coresecref01_left mf okf, con_coresecref01_Raw, con_coresecref01_Compare], [], fds, [], qes, ges, mes, []⟩
def h_coresecref01_left : Hint := (.s .n (.s (.s .n (.c (.s .n .n) .n)) (.s .n (.j ⟨[.d 7 .bool], [1, 2, 3]⟩ false .n (.j ⟨[.d 8 .bool], [1, 2, 3, 7]⟩ false .n (.s (.b (.j ⟨[.d 37 .bool], [1, 2, 3, 7]⟩ false (.j ⟨[.d 37 .bool], [1, 2, 3, 7, 8]⟩ false .n (.c .n (.j ⟨[.d 37 .bool], [1, 2, 3, 7, 8]⟩ false .n (.c .n (.j ⟨[.d 37 .bool], [1, 2, 3, 7, 8]⟩ false .n (.c .n .n)))))) (.c (.s .n .n) (.j ⟨[.d 78 .bool], [1, 2, 3, 7]⟩ false (.s .n (.c .n .n)) (.c (.s .n .n) (.j ⟨[.d 92 .bool], [1, 2, 3, 7]⟩ false (.j ⟨[.d 92 .bool], [1, 2, 3, 7]⟩ false .n (.c .n .n)) (.c (.s .n .n) (.j ⟨[.d 124 .bool], [1, 2, 3]⟩ false (.j ⟨[.d 124 .bool], [1, 2, 3]⟩ false .n (.c .n (.j ⟨[.d 124 .bool], [1, 2, 3]⟩ false .n (.c .n (.j ⟨[.d 124 .bool], [1, 2, 3]⟩ false .n (.c .n .n)))))) (.c (.s .n .n) .n))))))))) (.j ⟨[.d 1 (.int .i64)], [3]⟩ true (.s .n (.b (.l (.a 157 156) ⟨[.d 1 (.int .i64)], [2, 3, 155, 156]⟩ (.s .n (.s (.c .n .n) (.s (.b (.s .n (.s .n (.s .n (.c (.s .n .n) .n))))) .n)))))) (.s (.s .n (.b (.l .g ⟨[.d 11 (.int .i64)], [1, 3]⟩ (.s (.j ⟨[.d 178 .bool], [1, 3, 11]⟩ false .n (.c .n .n)) (.s (.b (.s .n (.c (.s .n .n) .n))) .n))))) (.s .n .n)))))))))
theorem ob_coresecref01_left (mf : cur [.d .tree, .d (.int .i64), .d (.int .i64)] (Option (tupR (([.d (.int .i64)] : List RK) ++ outs [.d .tree, .d (.int .i64), .d (.int .i64)])))) (okf : ∀ a r, app1 [.d .tree, .d (.int .i64), .d (.int .i64)] mf a = some r → OKc Tryz.prog 134 [.d .tree, .d (.int .i64), .d (.int .i64)] [.d (.int .i64)] a (toHL _ r)) : ∀ a r, app1 [.d .tree, .d (.int .i64), .d (.int .i64)] (b_coresecref01_left mf) a = some r → OKc Tryz.prog 134 [.d .tree, .d (.int .i64), .d (.int .i64)] [.d (.int .i64)] a (toHL _ r) := fun a r h => mkM_ok (T := t_coresecref01_left mf okf) (N := 197) (own := []) (rng := [156]) (c := (codeOf Tryz.f134)) (h := h_coresecref01_left) (qs := [.tmp 6]) (ps := [.d .tree, .d (.int .i64), .d (.int .i64)]) (rs := [.d (.int .i64)]) kMix Tryz.func134 (by kernel_rfl) (by kernel_rfl) (by kernel_rfl) (by kernel_rfl) a r (Eq.trans (by kernel_rfl) h)
theorem on_coresecref01_left : ∀ (n : Nat) a r, app1 [.d .tree, .d (.int .i64), .d (.int .i64)] (n_coresecref01_left n) a = some r → OKc Tryz.prog 134 [.d .tree, .d (.int .i64), .d (.int .i64)] [.d (.int .i64)] a (toHL _ r)
  | 0, a, r, h => by cases (show (none : Option _) = some r from h)
  | n + 1, a, r, h => ob_coresecref01_left (n_coresecref01_left n) (on_coresecref01_left n) a r h
def con_coresecref01_left : Con Tryz.prog := ⟨134, [.d .tree, .d (.int .i64), .d (.int .i64)], [.d (.int .i64)], ⟨Tryz.f134, Tryz.func134, by kernel_rfl, by kernel_rfl⟩, m_coresecref01_left, fun a r h => on_coresecref01_left 40 a r h⟩

def t_coresecref01_Valid : Tab Tryz.prog := ⟨tes, ses, fes, bes, [con_coresecref01_left, con_coresecref01_Raw], [], fds, [], qes, ges, mes, []⟩
def h_coresecref01_Valid : Hint := (.s .n (.j ⟨[.d 2 .bool], []⟩ false .n .n))

def con_coresecref01_Valid : Con Tryz.prog := ⟨126, [.d .tree], [.d .bool], ⟨Tryz.f126, Tryz.func126, by kernel_rfl, by kernel_rfl⟩, m_coresecref01_Valid, fun a r h => mkM_ok (T := t_coresecref01_Valid) (N := 12) (own := []) (rng := []) (c := (codeOf Tryz.f126)) (h := h_coresecref01_Valid) (qs := [.tmp 2]) kMix Tryz.func126 (by kernel_rfl) (by kernel_rfl) (by kernel_rfl) (by kernel_rfl) a r (Eq.trans (by kernel_rfl) h)⟩
def t_coresecref01_Encode : Tab Tryz.prog := ⟨tes, ses, fes, bes, [con_coresecref01_Valid, con_coresecref01_Raw], [], fds, [], qes, ges, mes, []⟩
def h_coresecref01_Encode : Hint := (.s .n (.s (.s .n (.c (.s .n .n) .n)) (.s .n .n)))

def con_coresecref01_Encode : Con Tryz.prog := ⟨99, [.d .tree], [.d (.sl (.int .u8)), .d (.int .i64)], ⟨Tryz.f99, Tryz.func99, by kernel_rfl, by kernel_rfl⟩, m_coresecref01_Encode, fun a r h => mkM_ok (T := t_coresecref01_Encode) (N := 9) (own := []) (rng := []) (c := (codeOf Tryz.f99)) (h := h_coresecref01_Encode) (qs := [.tmp 2, .tmp 3]) kMix Tryz.func99 (by kernel_rfl) (by kernel_rfl) (by kernel_rfl) (by kernel_rfl) a r (Eq.trans (by kernel_rfl) h)⟩
def t_coresecref16_CacheKey : Tab Tryz.prog := ⟨tes, ses, fes, bes, [con_coresecref16_NoCacheKey, con_coresecref01_Int, con_coresecref01_Bytes, con_coresecref01_Encode], [], fds, [], qes, ges, mes, []⟩
def h_coresecref16_CacheKey : Hint := (.s .n (.s .n (.s (.s .n (.b (.l (.a 12 11) ⟨[.o 3 117 .tree], [1, 10, 11]⟩ (.s .n (.s (.c .n .n) (.j ⟨[.o 3 117 .tree], [1, 10, 11, 12]⟩ false (.b (.s .n (.j ⟨[.d 29 .bool], [1, 3, 5, 10, 11, 12]⟩ false .n (.c .n .n)))) .n)))))) (.s .n (.j ⟨[.o 6 117 .tree], []⟩ false (.s .n (.c .n .n)) (.s .n (.s (.s .n (.c (.s .n .n) .n)) (.s .n .n))))))))

def con_coresecref16_CacheKey : Con Tryz.prog := ⟨53, [.d P_api_Message], [.d (.sl (.int .u8))], ⟨Tryz.f53, Tryz.func53, by kernel_rfl, by kernel_rfl⟩, m_coresecref16_CacheKey, fun a r h => mkM_ok (T := t_coresecref16_CacheKey) (N := 66) (own := [40, 47, 56]) (rng := [11]) (c := (codeOf Tryz.f53)) (h := h_coresecref16_CacheKey) (qs := [.tmp 2]) kMix Tryz.func53 (by kernel_rfl) (by kernel_rfl) (by kernel_rfl) (by kernel_rfl) a r (Eq.trans (by kernel_rfl) h)⟩
def t_coresecref20_at : Tab Tryz.prog := ⟨tes, ses, fes, bes, [], [], fds, [], qes, ges, mes, []⟩
def h_coresecref20_at : Hint := (.s .n (.s (.s .n (.b (.l (.a 9 8) ⟨[], [1, 7, 8]⟩ (.s .n (.s (.c .n .n) (.s (.b (.s .n (.s .n (.c (.s .n .n) .n)))) .n)))))) (.s .n .n)))

def con_coresecref20_at : Con Tryz.prog := ⟨95, [.d (.sl P_api_Cached), .d (.sl (.int .u8))], [.d (.int .i64)], ⟨Tryz.f95, Tryz.func95, by kernel_rfl, by kernel_rfl⟩, m_coresecref20_at, fun a r h => mkM_ok (T := t_coresecref20_at) (N := 22) (own := []) (rng := [8]) (c := (codeOf Tryz.f95)) (h := h_coresecref20_at) (qs := [.tmp 4]) kMix Tryz.func95 (by kernel_rfl) (by kernel_rfl) (by kernel_rfl) (by kernel_rfl) a r (Eq.trans (by kernel_rfl) h)⟩
def t_coresecref16_FromUint : Tab Tryz.prog := ⟨tes, ses, fes, bes, [], [], fds, [], qes, ges, mes, []⟩
def h_coresecref16_FromUint : Hint := (.s .n (.s (.j ⟨[.d 9 .bool], [0]⟩ false .n (.c (.s .n .n) .n)) (.s .n (.j ⟨[.d 3 (.sl (.int .u8))], []⟩ false (.b (.l .g ⟨[.d 0 (.int .i64), .d 3 (.sl (.int .u8))], []⟩ (.s (.s .n (.c .n .n)) (.s (.b .n) .n)))) (.s .n .n)))))

def con_coresecref16_FromUint : Con Tryz.prog := ⟨66, [.d (.int .i64)], [.d (.sl (.int .u8))], ⟨Tryz.f66, Tryz.func66, by kernel_rfl, by kernel_rfl⟩, m_coresecref16_FromUint, fun a r h => mkM_ok (T := t_coresecref16_FromUint) (N := 20) (own := [16]) (rng := []) (c := (codeOf Tryz.f66)) (h := h_coresecref16_FromUint) (qs := [.tmp 2]) kMix Tryz.func66 (by kernel_rfl) (by kernel_rfl) (by kernel_rfl) (by kernel_rfl) a r (Eq.trans (by kernel_rfl) h)⟩
def t_coresecref20_Lookup : Tab Tryz.prog := ⟨tes, ses, fes, bes, [con_coresecref20_at, con_coresecref16_FromUint, con_coresecref16_Set], [], fds, [], qes, ges, mes, []⟩
def h_coresecref20_Lookup : Hint := (.s .n (.s .n (.s (.j ⟨[.d 37 .bool], [0, 2, 6, 8]⟩ false .n (.c (.s .n .n) .n)) (.s .n .n))))

def con_coresecref20_Lookup : Con Tryz.prog := ⟨52, [.d (.sl P_api_Cached), .d (.sl (.int .u8)), .d (.int .i64)], [.d P_api_Message, .d .bool], ⟨Tryz.f52, Tryz.func52, by kernel_rfl, by kernel_rfl⟩, m_coresecref20_Lookup, fun a r h => mkM_ok (T := t_coresecref20_Lookup) (N := 60) (own := []) (rng := []) (c := (codeOf Tryz.f52)) (h := h_coresecref20_Lookup) (qs := [.cell 6 29, .tmp 7]) kMix Tryz.func52 (by kernel_rfl) (by kernel_rfl) (by kernel_rfl) (by kernel_rfl) a r (Eq.trans (by kernel_rfl) h)⟩
def t_coresecref26_Copy : Tab Tryz.prog := ⟨tes, ses, fes, bes, [], [], fds, [], qes, ges, mes, []⟩
def h_coresecref26_Copy : Hint := (.s .n (.s .n .n))

def con_coresecref26_Copy : Con Tryz.prog := ⟨54, [.d (.sl (.int .u8))], [.d (.sl (.int .u8))], ⟨Tryz.f54, Tryz.func54, by kernel_rfl, by kernel_rfl⟩, m_coresecref26_Copy, fun a r h => mkM_ok (T := t_coresecref26_Copy) (N := 5) (own := []) (rng := []) (c := (codeOf Tryz.f54)) (h := h_coresecref26_Copy) (qs := [.tmp 2]) kMix Tryz.func54 (by kernel_rfl) (by kernel_rfl) (by kernel_rfl) (by kernel_rfl) a r (Eq.trans (by kernel_rfl) h)⟩
def t_coresecref34_Copy : Tab Tryz.prog := ⟨tes, ses, fes, bes, [], [], fds, [], qes, ges, mes, []⟩
def h_coresecref34_Copy : Hint := (.s .n (.s .n .n))

def con_coresecref34_Copy : Con Tryz.prog := ⟨40, [.d P_api_Proxy], [.d P_api_Proxy], ⟨Tryz.f40, Tryz.func40, by kernel_rfl, by kernel_rfl⟩, m_coresecref34_Copy, fun a r h => mkM_ok (T := t_coresecref34_Copy) (N := 14) (own := []) (rng := []) (c := (codeOf Tryz.f40)) (h := h_coresecref34_Copy) (qs := [.cell 2 25]) kMix Tryz.func40 (by kernel_rfl) (by kernel_rfl) (by kernel_rfl) (by kernel_rfl) a r (Eq.trans (by kernel_rfl) h)⟩
def t_coresecref34_Copy_o : Tab Tryz.prog := ⟨tes, ses, fes, bes, [], [2, 1000007], fds, [(3000013, 1, 22)], qes, ges, mes, []⟩
def h_coresecref34_Copy_o : Hint := (.s .n (.s .n .n))

def con_coresecref34_Copy_o : Con Tryz.prog := ⟨40, [.d P_api_Proxy], [.h P_api_Proxy 1 69 P_api_Hop], ⟨Tryz.f40, Tryz.func40, by kernel_rfl, by kernel_rfl⟩, m_coresecref34_Copy_o, fun a r h => mkM_ok (T := t_coresecref34_Copy_o) (N := 14) (own := [7]) (rng := []) (c := (codeOf Tryz.f40)) (h := h_coresecref34_Copy_o) (qs := [.cell 2 25]) kMix Tryz.func40 (by kernel_rfl) (by kernel_rfl) (by kernel_rfl) (by kernel_rfl) a r (Eq.trans (by kernel_rfl) h)⟩
def t_coresecref34_free : Tab Tryz.prog := ⟨tes, ses, fes, bes, [], [], fds, [], qes, ges, mes, []⟩
def h_coresecref34_free : Hint := (.s .n (.b (.l .g ⟨[.d 1 (.int .i64)], [2]⟩ (.b (.s .n (.s (.s .n (.b (.l (.a 11 10) ⟨[.d 5 .bool], [1, 2, 9, 10]⟩ (.s .n (.s (.c .n .n) (.s (.b (.s .n .n)) .n)))))) (.s (.s .n (.c (.s .n .n) .n)) .n)))))))

def con_coresecref34_free : Con Tryz.prog := ⟨55, [.d P_api_Proxy, .d (.int .i64)], [.d (.int .i64)], ⟨Tryz.f55, Tryz.func55, by kernel_rfl, by kernel_rfl⟩, m_coresecref34_free, fun a r h => mkM_ok (T := t_coresecref34_free) (N := 39) (own := []) (rng := [10]) (c := (codeOf Tryz.f55)) (h := h_coresecref34_free) (qs := [.tmp 4]) kMix Tryz.func55 (by kernel_rfl) (by kernel_rfl) (by kernel_rfl) (by kernel_rfl) a r (Eq.trans (by kernel_rfl) h)⟩
def t_coresecref15_Copy : Tab Tryz.prog := ⟨tes, ses, fes, bes, [], [], fds, [], qes, ges, mes, []⟩
def h_coresecref15_Copy : Hint := (.s .n (.s .n (.s .n (.s (.s .n (.b (.l (.a 17 16) ⟨[.o 3 75 P_api_Option], [1, 2, 15, 16]⟩ (.s .n (.s (.c .n .n) (.s (.b (.s .n .n)) .n)))))) (.s .n (.s .n .n))))))

def con_coresecref15_Copy : Con Tryz.prog := ⟨56, [.d P_api_Message], [.d P_api_Message], ⟨Tryz.f56, Tryz.func56, by kernel_rfl, by kernel_rfl⟩, m_coresecref15_Copy, fun a r h => mkM_ok (T := t_coresecref15_Copy) (N := 34) (own := [29]) (rng := [16]) (c := (codeOf Tryz.f56)) (h := h_coresecref15_Copy) (qs := [.cell 2 29]) kMix Tryz.func56 (by kernel_rfl) (by kernel_rfl) (by kernel_rfl) (by kernel_rfl) a r (Eq.trans (by kernel_rfl) h)⟩
def t_coresecref16_Uint : Tab Tryz.prog := ⟨tes, ses, fes, bes, [], [], fds, [], qes, ges, mes, []⟩
def h_coresecref16_Uint : Hint := (.s .n (.s .n (.s (.s .n (.b (.l (.a 9 8) ⟨[.d 4 (.int .i64)], [7, 8]⟩ (.s .n (.s (.c .n .n) (.s (.b (.s .n (.s .n (.s .n (.c (.s .n .n) .n))))) .n)))))) (.s .n .n))))

def con_coresecref16_Uint : Con Tryz.prog := ⟨128, [.d (.sl (.int .u8))], [.d (.int .i64), .d (.int .i64)], ⟨Tryz.f128, Tryz.func128, by kernel_rfl, by kernel_rfl⟩, m_coresecref16_Uint, fun a r h => mkM_ok (T := t_coresecref16_Uint) (N := 22) (own := []) (rng := [8]) (c := (codeOf Tryz.f128)) (h := h_coresecref16_Uint) (qs := [.tmp 2, .tmp 3]) kMix Tryz.func128 (by kernel_rfl) (by kernel_rfl) (by kernel_rfl) (by kernel_rfl) a r (Eq.trans (by kernel_rfl) h)⟩
def t_coresecref18_Parse : Tab Tryz.prog := ⟨tes, ses, fes, bes, [con_coresecref16_Uint], [], fds, [], qes, ges, mes, []⟩
def h_coresecref18_Parse : Hint := (.s .n (.s (.s .n (.c (.s .n .n) .n)) (.s .n (.s (.s .n (.c (.s .n .n) .n)) (.s .n .n)))))

def con_coresecref18_Parse : Con Tryz.prog := ⟨100, [.d (.sl (.int .u8))], [.d P_api_Block, .d (.int .i64)], ⟨Tryz.f100, Tryz.func100, by kernel_rfl, by kernel_rfl⟩, m_coresecref18_Parse, fun a r h => mkM_ok (T := t_coresecref18_Parse) (N := 28) (own := []) (rng := []) (c := (codeOf Tryz.f100)) (h := h_coresecref18_Parse) (qs := [.cell 2 103, .tmp 3]) kMix Tryz.func100 (by kernel_rfl) (by kernel_rfl) (by kernel_rfl) (by kernel_rfl) a r (Eq.trans (by kernel_rfl) h)⟩
def t_coresecref33_Sound : Tab Tryz.prog := ⟨tes, ses, fes, bes, [con_coresecref16_All, con_coresecref18_Parse], [], fds, [], qes, ges, mes, []⟩
def h_coresecref33_Sound : Hint := (.s .n (.s .n (.s (.s .n (.c (.s .n .n) .n)) (.s .n (.s (.j ⟨[.d 30 .bool], [4, 8]⟩ false .n (.c (.s .n .n) .n)) (.s .n .n))))))

def con_coresecref33_Sound : Con Tryz.prog := ⟨57, [.d P_api_Message, .d (.int .i64)], [.d P_api_Block, .d .bool, .d .bool], ⟨Tryz.f57, Tryz.func57, by kernel_rfl, by kernel_rfl⟩, m_coresecref33_Sound, fun a r h => mkM_ok (T := t_coresecref33_Sound) (N := 33) (own := []) (rng := []) (c := (codeOf Tryz.f57)) (h := h_coresecref33_Sound) (qs := [.cell 4 103, .tmp 5, .tmp 6]) kMix Tryz.func57 (by kernel_rfl) (by kernel_rfl) (by kernel_rfl) (by kernel_rfl) a r (Eq.trans (by kernel_rfl) h)⟩
def t_coresecref18_length : Tab Tryz.prog := ⟨tes, ses, fes, bes, [], [], fds, [], qes, ges, mes, []⟩
def h_coresecref18_length : Hint := (.s .n (.s .n .n))

def con_coresecref18_length : Con Tryz.prog := ⟨101, [.d (.int .i64)], [.d (.int .i64)], ⟨Tryz.f101, Tryz.func101, by kernel_rfl, by kernel_rfl⟩, m_coresecref18_length, fun a r h => mkM_ok (T := t_coresecref18_length) (N := 6) (own := []) (rng := []) (c := (codeOf Tryz.f101)) (h := h_coresecref18_length) (qs := [.tmp 2]) kMix Tryz.func101 (by kernel_rfl) (by kernel_rfl) (by kernel_rfl) (by kernel_rfl) a r (Eq.trans (by kernel_rfl) h)⟩
def t_coresecref18_Blocks : Tab Tryz.prog := ⟨tes, ses, fes, bes, [con_coresecref18_length], [], fds, [], qes, ges, mes, []⟩
def h_coresecref18_Blocks : Hint := (.s .n (.s (.j ⟨[.d 18 .bool], [0, 1]⟩ false .n (.c (.s .n .n) .n)) (.s .n .n)))

def con_coresecref18_Blocks : Con Tryz.prog := ⟨58, [.d (.int .i64), .d (.int .i64)], [.d (.int .i64)], ⟨Tryz.f58, Tryz.func58, by kernel_rfl, by kernel_rfl⟩, m_coresecref18_Blocks, fun a r h => mkM_ok (T := t_coresecref18_Blocks) (N := 28) (own := []) (rng := []) (c := (codeOf Tryz.f58)) (h := h_coresecref18_Blocks) (qs := [.tmp 4]) kMix Tryz.func58 (by kernel_rfl) (by kernel_rfl) (by kernel_rfl) (by kernel_rfl) a r (Eq.trans (by kernel_rfl) h)⟩
def t_coresecref18_valid : Tab Tryz.prog := ⟨tes, ses, fes, bes, [], [], fds, [], qes, ges, mes, []⟩
def h_coresecref18_valid : Hint := (.s .n (.j ⟨[.d 2 .bool], []⟩ false .n .n))

def con_coresecref18_valid : Con Tryz.prog := ⟨111, [.d P_api_Block], [.d .bool], ⟨Tryz.f111, Tryz.func111, by kernel_rfl, by kernel_rfl⟩, m_coresecref18_valid, fun a r h => mkM_ok (T := t_coresecref18_valid) (N := 21) (own := []) (rng := []) (c := (codeOf Tryz.f111)) (h := h_coresecref18_valid) (qs := [.tmp 2]) kMix Tryz.func111 (by kernel_rfl) (by kernel_rfl) (by kernel_rfl) (by kernel_rfl) a r (Eq.trans (by kernel_rfl) h)⟩
def t_coresecref18_Cut : Tab Tryz.prog := ⟨tes, ses, fes, bes, [con_coresecref18_valid, con_coresecref18_length], [], fds, [], qes, ges, mes, []⟩
def h_coresecref18_Cut : Hint := (.s .n (.s (.s .n (.c (.s .n .n) .n)) (.s .n (.s (.j ⟨[.d 30 .bool], [0, 2, 9]⟩ false .n (.c (.s .n .n) .n)) (.s .n (.s .n .n))))))

def con_coresecref18_Cut : Con Tryz.prog := ⟨102, [.d (.sl (.int .u8)), .d (.int .i64), .d (.int .i64)], [.d (.sl (.int .u8)), .d .bool, .d (.int .i64)], ⟨Tryz.f102, Tryz.func102, by kernel_rfl, by kernel_rfl⟩, m_coresecref18_Cut, fun a r h => mkM_ok (T := t_coresecref18_Cut) (N := 47) (own := []) (rng := []) (c := (codeOf Tryz.f102)) (h := h_coresecref18_Cut) (qs := [.tmp 6, .tmp 7, .tmp 8]) kMix Tryz.func102 (by kernel_rfl) (by kernel_rfl) (by kernel_rfl) (by kernel_rfl) a r (Eq.trans (by kernel_rfl) h)⟩
def t_coresecref18_Value : Tab Tryz.prog := ⟨tes, ses, fes, bes, [con_coresecref18_valid, con_coresecref16_FromUint], [], fds, [], qes, ges, mes, []⟩
def h_coresecref18_Value : Hint := (.s .n (.s (.s .n (.c (.s .n .n) .n)) (.s .n (.j ⟨[.d 4 (.int .i64)], []⟩ false (.s .n (.c .n .n)) (.s .n .n)))))

def con_coresecref18_Value : Con Tryz.prog := ⟨67, [.d P_api_Block], [.d (.sl (.int .u8)), .d (.int .i64)], ⟨Tryz.f67, Tryz.func67, by kernel_rfl, by kernel_rfl⟩, m_coresecref18_Value, fun a r h => mkM_ok (T := t_coresecref18_Value) (N := 20) (own := []) (rng := []) (c := (codeOf Tryz.f67)) (h := h_coresecref18_Value) (qs := [.tmp 2, .tmp 3]) kMix Tryz.func67 (by kernel_rfl) (by kernel_rfl) (by kernel_rfl) (by kernel_rfl) a r (Eq.trans (by kernel_rfl) h)⟩
def t_coresecref33_Cut : Tab Tryz.prog := ⟨tes, ses, fes, bes, [con_coresecref33_Sound, con_coresecref18_Cut, con_coresecref18_Value, con_coresecref16_Set], [], fds, [], qes, ges, mes, []⟩
def h_coresecref33_Cut : Hint := (.s .n (.s (.j ⟨[.d 24 .bool], [1, 2, 3, 4, 8]⟩ false .n (.c (.s .n .n) .n)) (.s (.s .n (.s .n (.c (.s .n .n) .n))) (.s .n (.s (.s .n (.c (.s .n .n) .n)) (.s .n (.s .n (.s .n (.s .n .n)))))))))

def con_coresecref33_Cut : Con Tryz.prog := ⟨59, [.d P_api_Message, .d (.int .i64), .d (.int .i64), .d (.int .i64)], [.d P_api_Message, .d (.int .i64)], ⟨Tryz.f59, Tryz.func59, by kernel_rfl, by kernel_rfl⟩, m_coresecref33_Cut, fun a r h => mkM_ok (T := t_coresecref33_Cut) (N := 64) (own := []) (rng := []) (c := (codeOf Tryz.f59)) (h := h_coresecref33_Cut) (qs := [.cell 8 29, .tmp 9]) kMix Tryz.func59 (by kernel_rfl) (by kernel_rfl) (by kernel_rfl) (by kernel_rfl) a r (Eq.trans (by kernel_rfl) h)⟩
end
end Go.Proofs.YtcbkmlfkfhfliaaGreatDoor
