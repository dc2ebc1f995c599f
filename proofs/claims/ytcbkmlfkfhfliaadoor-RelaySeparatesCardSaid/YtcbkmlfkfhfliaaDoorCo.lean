/-
  The functions compute their models: what the evaluator gives is the model, by the kernel. No condition.
-/
import Derived.Test.YtcbkmlfkfhfliaaDoorMo
namespace Go.Proofs.YtcbkmlfkfhfliaaDoor
open Go.Gk Go.RowKit
noncomputable section
set_option maxRecDepth 100000
def t_coresecmake_New : Tab Tryd.prog := ⟨tes, ses, fes, bes, [], [], fds, [], qes, ges, mes, []⟩
def h_coresecmake_New : Hint := (.s .n (.s .n .n))

def con_coresecmake_New : Con Tryd.prog := ⟨4, [.d (.sl (.int .i64))], [.p 51 P_coresecmake_Deck], ⟨Tryd.f4, Tryd.func4, by kernel_rfl, by kernel_rfl⟩, m_coresecmake_New, fun a r h => mkM_ok (T := t_coresecmake_New) (N := 6) (own := []) (rng := []) (c := (codeOf Tryd.f4)) (h := h_coresecmake_New) (qs := [.tmp 2]) kMix Tryd.func4 (by kernel_rfl) (by kernel_rfl) (by kernel_rfl) (by kernel_rfl) a r (Eq.trans (by kernel_rfl) h)⟩
def t_coresecmake_Mod : Tab Tryd.prog := ⟨tes, ses, fes, bes, [], [], fds, [], qes, ges, mes, []⟩
def h_coresecmake_Mod : Hint := (.s .n (.s .n (.j ⟨[.d 5 (.int .i64)], []⟩ false (.s .n (.c .n .n)) (.s .n .n))))

def con_coresecmake_Mod : Con Tryd.prog := ⟨8, [.d (.int .i64), .d (.int .i64)], [.d (.int .i64)], ⟨Tryd.f8, Tryd.func8, by kernel_rfl, by kernel_rfl⟩, m_coresecmake_Mod, fun a r h => mkM_ok (T := t_coresecmake_Mod) (N := 15) (own := []) (rng := []) (c := (codeOf Tryd.f8)) (h := h_coresecmake_Mod) (qs := [.tmp 4]) kMix Tryd.func8 (by kernel_rfl) (by kernel_rfl) (by kernel_rfl) (by kernel_rfl) a r (Eq.trans (by kernel_rfl) h)⟩
def t_coresecmake_Deck_Next : Tab Tryd.prog := ⟨tes, ses, fes, bes, [con_coresecmake_Mod], [], fds, [], qes, ges, mes, []⟩
def h_coresecmake_Deck_Next : Hint := (.s .n (.s (.s .n (.c (.s .n .n) .n)) (.s .n (.s .n .n))))

def con_coresecmake_Deck_Next : Con Tryd.prog := ⟨5, [.p 51 P_coresecmake_Deck, .d (.int .i64)], [.d (.int .i64)], ⟨Tryd.f5, Tryd.func5, by kernel_rfl, by kernel_rfl⟩, m_coresecmake_Deck_Next, fun a r h => mkM_ok (T := t_coresecmake_Deck_Next) (N := 35) (own := []) (rng := []) (c := (codeOf Tryd.f5)) (h := h_coresecmake_Deck_Next) (qs := [.tmp 4]) kMix Tryd.func5 (by kernel_rfl) (by kernel_rfl) (by kernel_rfl) (by kernel_rfl) a r (Eq.trans (by kernel_rfl) h)⟩
def t_coresecref16_with : Tab Tryd.prog := ⟨tes, ses, fes, bes, [], [], fds, [], qes, ges, mes, []⟩
def h_coresecref16_with : Hint := (.s .n (.s .n (.s .n (.s (.s .n (.b (.l (.a 18 17) ⟨[.o 5 72 P_api_Option], [2, 4, 16, 17]⟩ (.s .n (.s (.c .n .n) (.s (.b (.s .n .n)) .n)))))) (.s .n (.s .n .n))))))

def con_coresecref16_with : Con Tryd.prog := ⟨26, [.d P_api_Message, .d (.sl P_api_Option)], [.d P_api_Message], ⟨Tryd.f26, Tryd.func26, by kernel_rfl, by kernel_rfl⟩, m_coresecref16_with, fun a r h => mkM_ok (T := t_coresecref16_with) (N := 35) (own := [30]) (rng := [17]) (c := (codeOf Tryd.f26)) (h := h_coresecref16_with) (qs := [.cell 4 39]) kMix Tryd.func26 (by kernel_rfl) (by kernel_rfl) (by kernel_rfl) (by kernel_rfl) a r (Eq.trans (by kernel_rfl) h)⟩
def t_coresecref16_Set : Tab Tryd.prog := ⟨tes, ses, fes, bes, [con_coresecref16_with], [], fds, [], qes, ges, mes, []⟩
def h_coresecref16_Set : Hint := (.s .n (.s .n (.s (.s .n (.b (.l (.a 17 16) ⟨[.o 7 72 P_api_Option], [1, 2, 3, 6, 15, 16]⟩ (.s .n (.s (.c .n .n) (.j ⟨[.o 7 72 P_api_Option], [1, 2, 3, 6, 15, 16, 17]⟩ false (.b (.s .n (.s .n (.c .n .n)))) .n)))))) (.s (.s .n (.b (.l (.a 32 31) ⟨[.o 7 72 P_api_Option], [1, 3, 6, 30, 31]⟩ (.s .n (.s (.c .n .n) (.s (.b (.s .n .n)) .n)))))) (.s (.s .n (.b (.l (.a 46 45) ⟨[.o 7 72 P_api_Option], [1, 3, 6, 44, 45]⟩ (.s .n (.s (.c .n .n) (.j ⟨[.o 7 72 P_api_Option], [1, 3, 6, 44, 45, 46]⟩ false (.b (.s .n (.s .n (.c .n .n)))) .n)))))) (.s .n .n))))))

def con_coresecref16_Set : Con Tryd.prog := ⟨7, [.d P_api_Message, .d (.int .i64), .d (.sl (.sl (.int .u8)))], [.d P_api_Message], ⟨Tryd.f7, Tryd.func7, by kernel_rfl, by kernel_rfl⟩, m_coresecref16_Set, fun a r h => mkM_ok (T := t_coresecref16_Set) (N := 62) (own := [28, 41, 57]) (rng := [16, 31, 45]) (c := (codeOf Tryd.f7)) (h := h_coresecref16_Set) (qs := [.cell 6 39]) kMix Tryd.func7 (by kernel_rfl) (by kernel_rfl) (by kernel_rfl) (by kernel_rfl) a r (Eq.trans (by kernel_rfl) h)⟩
def t_coap_sound : Tab Tryd.prog := ⟨tes, ses, fes, bes, [], [], fds, [], qes, ges, mes, []⟩
def h_coap_sound : Hint := (.s .n (.s .n (.s (.j ⟨[.d 43 .bool], [1]⟩ false .n (.c (.s .n .n) .n)) (.s (.j ⟨[.d 63 .bool], [1]⟩ false .n (.c (.s .n .n) .n)) (.s .n (.s (.s .n (.b (.l (.a 67 66) ⟨[.d 4 (.int .i64)], [1, 65, 66]⟩ (.s .n (.s (.c .n .n) (.s (.b (.s .n (.s (.j ⟨[.d 85 .bool], [1, 6, 65, 66, 67]⟩ false .n (.c (.s .n .n) .n)) .n))) .n)))))) (.s (.j ⟨[.d 105 .bool], [1]⟩ false .n (.c (.s .n .n) .n)) (.j ⟨[.d 2 .bool], []⟩ false .n .n))))))))

def con_coap_sound : Con Tryd.prog := ⟨32, [.d P_api_Message], [.d .bool], ⟨Tryd.f32, Tryd.func32, by kernel_rfl, by kernel_rfl⟩, m_coap_sound, fun a r h => mkM_ok (T := t_coap_sound) (N := 120) (own := []) (rng := [66]) (c := (codeOf Tryd.f32)) (h := h_coap_sound) (qs := [.tmp 2]) kMix Tryd.func32 (by kernel_rfl) (by kernel_rfl) (by kernel_rfl) (by kernel_rfl) a r (Eq.trans (by kernel_rfl) h)⟩
def t_coap_parts : Tab Tryd.prog := ⟨tes, ses, fes, bes, [], [], fds, [], qes, ges, mes, []⟩
def h_coap_parts : Hint := (.s .n (.s (.b (.s .n (.c (.s .n .n) (.s .n (.c (.s .n .n) .n))))) (.s .n .n)))

def con_coap_parts : Con Tryd.prog := ⟨58, [.d (.int .i64)], [.d (.int .u8), .d (.sl (.int .u8))], ⟨Tryd.f58, Tryd.func58, by kernel_rfl, by kernel_rfl⟩, m_coap_parts, fun a r h => mkM_ok (T := t_coap_parts) (N := 24) (own := []) (rng := []) (c := (codeOf Tryd.f58)) (h := h_coap_parts) (qs := [.tmp 2, .tmp 3]) kMix Tryd.func58 (by kernel_rfl) (by kernel_rfl) (by kernel_rfl) (by kernel_rfl) a r (Eq.trans (by kernel_rfl) h)⟩
def t_coap_encode : Tab Tryd.prog := ⟨tes, ses, fes, bes, [con_coap_parts], [], fds, [], qes, ges, mes, []⟩
def h_coap_encode : Hint := (.s .n (.s .n (.s .n (.s .n (.s (.s .n (.b (.l (.a 38 37) ⟨[.o 3 5 (.int .u8), .d 4 (.int .i64)], [1, 36, 37]⟩ (.s .n (.s (.c .n .n) (.s (.b (.s .n (.s .n (.s .n (.s .n .n))))) .n)))))) (.j ⟨[.o 3 5 (.int .u8)], []⟩ false (.s .n (.c .n .n)) (.s .n .n)))))))

def con_coap_encode : Con Tryd.prog := ⟨33, [.d P_api_Message], [.d (.sl (.int .u8))], ⟨Tryd.f33, Tryd.func33, by kernel_rfl, by kernel_rfl⟩, m_coap_encode, fun a r h => mkM_ok (T := t_coap_encode) (N := 85) (own := [30, 34, 63, 65, 67, 70, 80, 83]) (rng := [37]) (c := (codeOf Tryd.f33)) (h := h_coap_encode) (qs := [.tmp 2]) kMix Tryd.func33 (by kernel_rfl) (by kernel_rfl) (by kernel_rfl) (by kernel_rfl) a r (Eq.trans (by kernel_rfl) h)⟩
def t_coap_Encode : Tab Tryd.prog := ⟨tes, ses, fes, bes, [con_coap_sound, con_coap_encode], [], fds, [], qes, ges, mes, []⟩
def h_coap_Encode : Hint := (.s .n (.s (.s .n (.c (.s .n .n) .n)) (.s .n (.s (.s .n (.c (.s .n .n) .n)) (.s .n .n)))))

def con_coap_Encode : Con Tryd.prog := ⟨13, [.d P_api_Message], [.d (.sl (.int .u8)), .d (.int .i64)], ⟨Tryd.f13, Tryd.func13, by kernel_rfl, by kernel_rfl⟩, m_coap_Encode, fun a r h => mkM_ok (T := t_coap_Encode) (N := 14) (own := []) (rng := []) (c := (codeOf Tryd.f13)) (h := h_coap_Encode) (qs := [.tmp 2, .tmp 3]) kMix Tryd.func13 (by kernel_rfl) (by kernel_rfl) (by kernel_rfl) (by kernel_rfl) a r (Eq.trans (by kernel_rfl) h)⟩
def t_cache_keyed : Tab Tryd.prog := ⟨tes, ses, fes, bes, [], [], fds, [], qes, ges, mes, []⟩
def h_cache_keyed : Hint := (.s .n (.j ⟨[.d 2 .bool], []⟩ false .n .n))

def con_cache_keyed : Con Tryd.prog := ⟨59, [.d (.sl (.int .u8))], [.d .bool], ⟨Tryd.f59, Tryd.func59, by kernel_rfl, by kernel_rfl⟩, m_cache_keyed, fun a r h => mkM_ok (T := t_cache_keyed) (N := 11) (own := []) (rng := []) (c := (codeOf Tryd.f59)) (h := h_cache_keyed) (qs := [.tmp 2]) kMix Tryd.func59 (by kernel_rfl) (by kernel_rfl) (by kernel_rfl) (by kernel_rfl) a r (Eq.trans (by kernel_rfl) h)⟩
def t_bytes_Equal : Tab Tryd.prog := ⟨tes, ses, fes, bes, [], [], fds, [], qes, ges, mes, []⟩
def h_bytes_Equal : Hint := (.s .n (.s .n .n))

def con_bytes_Equal : Con Tryd.prog := ⟨69, [.d (.sl (.int .u8)), .d (.sl (.int .u8))], [.d .bool], ⟨Tryd.f69, Tryd.func69, by kernel_rfl, by kernel_rfl⟩, m_bytes_Equal, fun a r h => mkM_ok (T := t_bytes_Equal) (N := 10) (own := []) (rng := []) (c := (codeOf Tryd.f69)) (h := h_bytes_Equal) (qs := [.tmp 4]) kMix Tryd.func69 (by kernel_rfl) (by kernel_rfl) (by kernel_rfl) (by kernel_rfl) a r (Eq.trans (by kernel_rfl) h)⟩
def t_cache_find : Tab Tryd.prog := ⟨tes, ses, fes, bes, [con_bytes_Equal], [], fds, [], qes, ges, mes, []⟩
def h_cache_find : Hint := (.s .n (.s (.s .n (.b (.l (.a 9 8) ⟨[], [1, 7, 8]⟩ (.s .n (.s (.c .n .n) (.s (.b (.s .n (.s .n (.c (.s .n .n) .n)))) .n)))))) (.s .n .n)))

def con_cache_find : Con Tryd.prog := ⟨41, [.d (.sl P_api_Cached), .d (.sl (.int .u8))], [.d (.int .i64)], ⟨Tryd.f41, Tryd.func41, by kernel_rfl, by kernel_rfl⟩, m_cache_find, fun a r h => mkM_ok (T := t_cache_find) (N := 20) (own := []) (rng := [8]) (c := (codeOf Tryd.f41)) (h := h_cache_find) (qs := [.tmp 4]) kMix Tryd.func41 (by kernel_rfl) (by kernel_rfl) (by kernel_rfl) (by kernel_rfl) a r (Eq.trans (by kernel_rfl) h)⟩
def t_coap_Valid : Tab Tryd.prog := ⟨tes, ses, fes, bes, [con_coap_sound, con_coap_encode], [], fds, [], qes, ges, mes, []⟩
def h_coap_Valid : Hint := (.s .n (.j ⟨[.d 2 .bool], []⟩ false .n .n))

def con_coap_Valid : Con Tryd.prog := ⟨51, [.d P_api_Message], [.d .bool], ⟨Tryd.f51, Tryd.func51, by kernel_rfl, by kernel_rfl⟩, m_coap_Valid, fun a r h => mkM_ok (T := t_coap_Valid) (N := 11) (own := []) (rng := []) (c := (codeOf Tryd.f51)) (h := h_coap_Valid) (qs := [.tmp 2]) kMix Tryd.func51 (by kernel_rfl) (by kernel_rfl) (by kernel_rfl) (by kernel_rfl) a r (Eq.trans (by kernel_rfl) h)⟩
def t_cache_bare : Tab Tryd.prog := ⟨tes, ses, fes, bes, [], [], fds, [], qes, ges, mes, []⟩
def h_cache_bare : Hint := (.s .n (.j ⟨[.d 2 .bool], []⟩ false .n .n))

def con_cache_bare : Con Tryd.prog := ⟨60, [.d P_api_Message], [.d .bool], ⟨Tryd.f60, Tryd.func60, by kernel_rfl, by kernel_rfl⟩, m_cache_bare, fun a r h => mkM_ok (T := t_cache_bare) (N := 17) (own := []) (rng := []) (c := (codeOf Tryd.f60)) (h := h_cache_bare) (qs := [.tmp 2]) kMix Tryd.func60 (by kernel_rfl) (by kernel_rfl) (by kernel_rfl) (by kernel_rfl) a r (Eq.trans (by kernel_rfl) h)⟩
def t_coap_Response : Tab Tryd.prog := ⟨tes, ses, fes, bes, [], [], fds, [], qes, ges, mes, []⟩
def h_coap_Response : Hint := (.s .n (.j ⟨[.d 2 .bool], []⟩ false .n .n))

def con_coap_Response : Con Tryd.prog := ⟨61, [.d (.int .i64)], [.d .bool], ⟨Tryd.f61, Tryd.func61, by kernel_rfl, by kernel_rfl⟩, m_coap_Response, fun a r h => mkM_ok (T := t_coap_Response) (N := 17) (own := []) (rng := []) (c := (codeOf Tryd.f61)) (h := h_coap_Response) (qs := [.tmp 2]) kMix Tryd.func61 (by kernel_rfl) (by kernel_rfl) (by kernel_rfl) (by kernel_rfl) a r (Eq.trans (by kernel_rfl) h)⟩
def t_cache_Valid : Tab Tryd.prog := ⟨tes, ses, fes, bes, [con_cache_keyed, con_cache_find, con_coap_Valid, con_cache_bare, con_coap_Response], [], fds, [], qes, ges, mes, []⟩
def h_cache_Valid : Hint := (.s .n (.s (.s .n (.c (.s .n .n) .n)) (.s (.s .n (.b (.l (.a 10 9) ⟨[], [0, 8, 9]⟩ (.s .n (.s (.c .n .n) (.s (.b (.s .n (.s (.j ⟨[.d 37 .bool], [0, 4, 8, 9, 10]⟩ false .n (.c (.s .n .n) .n)) (.j ⟨[.d 54 .bool], [0, 8, 9, 10]⟩ false .n (.c (.s .n .n) .n))))) .n)))))) (.s .n .n))))

def con_cache_Valid : Con Tryd.prog := ⟨34, [.d (.sl P_api_Cached)], [.d .bool], ⟨Tryd.f34, Tryd.func34, by kernel_rfl, by kernel_rfl⟩, m_cache_Valid, fun a r h => mkM_ok (T := t_cache_Valid) (N := 56) (own := []) (rng := [9]) (c := (codeOf Tryd.f34)) (h := h_cache_Valid) (qs := [.tmp 2]) kMix Tryd.func34 (by kernel_rfl) (by kernel_rfl) (by kernel_rfl) (by kernel_rfl) a r (Eq.trans (by kernel_rfl) h)⟩
def t_relay_find : Tab Tryd.prog := ⟨tes, ses, fes, bes, [], [], fds, [], qes, ges, mes, []⟩
def h_relay_find : Hint := (.s .n (.s (.s .n (.b (.l (.a 9 8) ⟨[], [1, 7, 8]⟩ (.s .n (.s (.c .n .n) (.s (.b (.s .n (.s .n (.c (.s .n .n) .n)))) .n)))))) (.s .n .n)))

def con_relay_find : Con Tryd.prog := ⟨24, [.d (.sl P_api_Hop), .d (.sl (.int .u8))], [.d (.int .i64)], ⟨Tryd.f24, Tryd.func24, by kernel_rfl, by kernel_rfl⟩, m_relay_find, fun a r h => mkM_ok (T := t_relay_find) (N := 22) (own := []) (rng := [8]) (c := (codeOf Tryd.f24)) (h := h_relay_find) (qs := [.tmp 4]) kMix Tryd.func24 (by kernel_rfl) (by kernel_rfl) (by kernel_rfl) (by kernel_rfl) a r (Eq.trans (by kernel_rfl) h)⟩
def t_relay_Valid : Tab Tryd.prog := ⟨tes, ses, fes, bes, [con_cache_Valid, con_relay_find], [], fds, [], qes, ges, mes, []⟩
def h_relay_Valid : Hint := (.s .n (.s (.j ⟨[.d 34 .bool], [1]⟩ false .n (.c (.s .n .n) .n)) (.s (.s .n (.b (.l (.a 38 37) ⟨[], [1, 36, 37]⟩ (.s .n (.s (.c .n .n) (.s (.b (.s .n (.j ⟨[.d 72 .bool], [1, 36, 37, 38]⟩ false .n (.c (.s .n .n) .n)))) .n)))))) (.s .n .n))))

def con_relay_Valid : Con Tryd.prog := ⟨14, [.d P_api_Proxy], [.d .bool], ⟨Tryd.f14, Tryd.func14, by kernel_rfl, by kernel_rfl⟩, m_relay_Valid, fun a r h => mkM_ok (T := t_relay_Valid) (N := 74) (own := []) (rng := [37]) (c := (codeOf Tryd.f14)) (h := h_relay_Valid) (qs := [.tmp 2]) kMix Tryd.func14 (by kernel_rfl) (by kernel_rfl) (by kernel_rfl) (by kernel_rfl) a r (Eq.trans (by kernel_rfl) h)⟩
def t_relay_time : Tab Tryd.prog := ⟨tes, ses, fes, bes, [], [], fds, [], qes, ges, mes, []⟩
def h_relay_time : Hint := (.s .n (.j ⟨[.d 2 .bool], []⟩ false .n .n))

def con_relay_time : Con Tryd.prog := ⟨15, [.d (.int .i64)], [.d .bool], ⟨Tryd.f15, Tryd.func15, by kernel_rfl, by kernel_rfl⟩, m_relay_time, fun a r h => mkM_ok (T := t_relay_time) (N := 9) (own := []) (rng := []) (c := (codeOf Tryd.f15)) (h := h_relay_time) (qs := [.tmp 2]) kMix Tryd.func15 (by kernel_rfl) (by kernel_rfl) (by kernel_rfl) (by kernel_rfl) a r (Eq.trans (by kernel_rfl) h)⟩
def t_relay_copied : Tab Tryd.prog := ⟨tes, ses, fes, bes, [], [], fds, [], qes, ges, mes, []⟩
def h_relay_copied : Hint := (.s .n (.s .n .n))

def con_relay_copied : Con Tryd.prog := ⟨22, [.d (.sl (.int .u8))], [.d (.sl (.int .u8))], ⟨Tryd.f22, Tryd.func22, by kernel_rfl, by kernel_rfl⟩, m_relay_copied, fun a r h => mkM_ok (T := t_relay_copied) (N := 5) (own := []) (rng := []) (c := (codeOf Tryd.f22)) (h := h_relay_copied) (qs := [.tmp 2]) kMix Tryd.func22 (by kernel_rfl) (by kernel_rfl) (by kernel_rfl) (by kernel_rfl) a r (Eq.trans (by kernel_rfl) h)⟩
def t_relay_message : Tab Tryd.prog := ⟨tes, ses, fes, bes, [con_relay_copied], [15, 33], fds, [], qes, ges, mes, []⟩
def h_relay_message : Hint := (.s .n (.s .n (.s .n (.s (.s .n (.b (.l (.a 19 18) ⟨[.h 3 39 P_api_Message 4 72 P_api_Option], [2, 3, 17, 18]⟩ (.s .n (.s (.c .n .n) (.s (.b (.s .n .n)) .n)))))) (.s .n .n)))))

def con_relay_message : Con Tryd.prog := ⟨21, [.d P_api_Message], [.d P_api_Message], ⟨Tryd.f21, Tryd.func21, by kernel_rfl, by kernel_rfl⟩, m_relay_message, fun a r h => mkM_ok (T := t_relay_message) (N := 36) (own := [32]) (rng := [18]) (c := (codeOf Tryd.f21)) (h := h_relay_message) (qs := [.cell 2 39]) kMix Tryd.func21 (by kernel_rfl) (by kernel_rfl) (by kernel_rfl) (by kernel_rfl) a r (Eq.trans (by kernel_rfl) h)⟩
def t_relay_cloned : Tab Tryd.prog := ⟨tes, ses, fes, bes, [con_relay_copied, con_relay_message], [3, 37, 59], fds, [(12, 1, 25), (12, 2, 26)], qes, ges, mes, []⟩
def h_relay_cloned : Hint := (.s .n (.s .n (.s (.s .n (.b (.l (.a 16 15) ⟨[.h 3 28 P_api_Proxy 1 68 P_api_Hop], [1, 2, 3, 14, 15]⟩ (.s .n (.s (.c .n .n) (.s (.b (.s .n (.s .n .n))) .n)))))) (.s (.s .n (.b (.l (.a 42 41) ⟨[.h 3 28 P_api_Proxy 2 81 P_api_Cached], [2, 3, 40, 41]⟩ (.s .n (.s (.c .n .n) (.s (.b (.s .n (.s .n .n))) .n)))))) (.s .n .n)))))

def con_relay_cloned : Con Tryd.prog := ⟨16, [.d P_api_Proxy], [.d P_api_Proxy], ⟨Tryd.f16, Tryd.func16, by kernel_rfl, by kernel_rfl⟩, m_relay_cloned, fun a r h => mkM_ok (T := t_relay_cloned) (N := 62) (own := [36, 58]) (rng := [15, 41]) (c := (codeOf Tryd.f16)) (h := h_relay_cloned) (qs := [.cell 2 28]) kMix Tryd.func16 (by kernel_rfl) (by kernel_rfl) (by kernel_rfl) (by kernel_rfl) a r (Eq.trans (by kernel_rfl) h)⟩
def t_relay_cloned_o : Tab Tryd.prog := ⟨tes, ses, fes, bes, [con_relay_copied, con_relay_message], [2, 3, 37, 59, 2000003], fds, [(12, 2, 26), (12, 1, 25)], qes, ges, mes, []⟩
def h_relay_cloned_o : Hint := (.s .n (.s .n (.s (.s .n (.b (.l (.a 16 15) ⟨[.h 3 28 P_api_Proxy 1 68 P_api_Hop], [1, 2, 3, 14, 15]⟩ (.s .n (.s (.c .n .n) (.s (.b (.s .n (.s .n .n))) .n)))))) (.s (.s .n (.b (.l (.a 42 41) ⟨[.h 3 28 P_api_Proxy 2 81 P_api_Cached], [2, 3, 40, 41]⟩ (.s .n (.s (.c .n .n) (.s (.b (.s .n (.s .n .n))) .n)))))) (.s .n .n)))))

def con_relay_cloned_o : Con Tryd.prog := ⟨16, [.d P_api_Proxy], [.h P_api_Proxy 1 68 P_api_Hop], ⟨Tryd.f16, Tryd.func16, by kernel_rfl, by kernel_rfl⟩, m_relay_cloned_o, fun a r h => mkM_ok (T := t_relay_cloned_o) (N := 62) (own := [36, 58]) (rng := [15, 41]) (c := (codeOf Tryd.f16)) (h := h_relay_cloned_o) (qs := [.cell 2 28]) kMix Tryd.func16 (by kernel_rfl) (by kernel_rfl) (by kernel_rfl) (by kernel_rfl) a r (Eq.trans (by kernel_rfl) h)⟩
theorem kUnd_31 : Tryd.prog.underlying 31 = some (.slice 5) := by kernel_rfl
theorem kSl_31 : TySl Tryd.prog 31 5 1 1 (.int .u8 0) := ⟨by kernel_rfl, info_of (by kernel_rfl), by kernel_rfl, by decide⟩
theorem kZero_5 : TyZero Tryd.prog 5 (.int .u8 0) := fun w => by kernel_rfl
theorem c_bytes_Clone {lab : Lab} {w : World} {a0 : List UInt8} {r : List UInt8} (hm : m_bytes_Clone a0 = some r) (t : Top lab w) {oa : Option Addr} {c : Nat} (s : SL Rep.u8 lab w oa c a0) :
    Calls Tryd.prog 68 [.slice oa a0.length c].toArray w (fun e w' => ∃ (oa' : Option Addr) (c' : Nat), e = .returned (.slice oa' r.length c') ∧ Ste lab 0 w lab w' ∧ SL Rep.u8 lab w' oa' c' r ∧ True) := by
  have hm' : bnd (app ([] : List UInt8) a0) some = some r := by unfold m_bytes_Clone at hm; rw [hm]; rfl
  refine enter Tryd.func68 rfl 8 rfl rfl ?_
  refine CW.sub (G := [(0, .slice oa a0.length c)]) ⟨rfl, trivial⟩ ?_
  refine CW.seq ?_
  refine CW.region ?_
  refine LW.assign wn rfl rfl ?_
  refine LW.nil ?_
  refine EW.seq_n ?_
  refine CW.seq ?_
  refine CW.seq ?_
  refine CW.region ?_
  refine LW.move wn rfl rfl ?_
  refine LW.eqnil kUnd_31 wn rfl rfl rfl ?_
  refine LW.nil ?_
  refine EW.seq_n ?_
  refine CW.cond (b := oa.isNone) rfl (fun hb => ?_) (fun hb => ?_)
  · cases oa with
    | some _ => cases hb
    | none =>
      have h0 : a0 = [] := (SL.flat' s).1 rfl
      subst h0
      have hr : r = [] := by simp [app, bnd, LIM] at hm'; exact hm'
      subst hr
      refine CW.seq ?_
      refine CW.region ?_
      refine LW.assign wn rfl rfl ?_
      refine LW.nil ?_
      refine EW.seq_n ?_
      refine CW.ret ?_
      refine EW.seq_r ?_
      exact EW.ret1 rfl rfl ⟨none, 0, rfl, ⟨rfl, rfl, rfl, Nat.le_refl _, fun _ _ _ => rfl, fun _ _ => rfl, t⟩, SL.nil, trivial⟩
  · refine CW.skip ?_
    refine EW.seq_n ?_
    refine CW.seq ?_
    refine CW.region ?_
    have cx := Cx.start t
    replace s := s.keep Keeps.lin
    refine LW.buildOwn (k := 2) (ρ := Rep.u8) (vs := []) (css := []) (xs := []) rfl kSl_31 kZero_5 (by kernel_rfl) rfl rfl trivial cx.top wn rfl ?_
    intro oa1 c1 lab1 w1 e1 o1
    replace cx := cx.step e1 rfl; replace s := s.step e1
    refine LW.move wn rfl rfl ?_
    refine LW.append (ρ := Rep.u8) (xs := []) (ys := a0) hm' o1 (SL.flat' s) cx.top rfl kSl_31 rfl wn rfl rfl rfl ?_
    intro zs oa2 c2 lab2 w2 hz e2 o2
    cases hz
    replace cx := cx.step e2 rfl
    refine LW.assign wn rfl rfl ?_
    refine LW.nil ?_
    refine EW.seq_n ?_
    refine CW.ret ?_
    exact EW.ret1 rfl rfl ⟨_, _, rfl, cx.ste t, o2.sl (cx.keeps t) (cx.own0 t rfl), trivial⟩
theorem co_bytes_Clone {lab : Lab} {w : World} {a0 : List UInt8} {r : List UInt8} {k : Nat} (hm : m_bytes_Clone a0 = some r) (t : Top lab w) {oa : Option Addr} {c : Nat} (s : SL Rep.u8 lab w oa c a0) :
    Calls Tryd.prog 68 [.slice oa a0.length c].toArray w (fun e w' => ∃ (lab' : Lab) (oa' : Option Addr) (c' : Nat), e = .returned (.slice oa' r.length c') ∧ Ste lab 0 w lab' w' ∧ Own Rep.u8 lab' w' k 5 oa' c' r ∧ True) := by
  have hm' : bnd (app ([] : List UInt8) a0) some = some r := by unfold m_bytes_Clone at hm; rw [hm]; rfl
  refine enter Tryd.func68 rfl 8 rfl rfl ?_
  refine CW.sub (G := [(0, .slice oa a0.length c)]) ⟨rfl, trivial⟩ ?_
  refine CW.seq ?_
  refine CW.region ?_
  refine LW.assign wn rfl rfl ?_
  refine LW.nil ?_
  refine EW.seq_n ?_
  refine CW.seq ?_
  refine CW.seq ?_
  refine CW.region ?_
  refine LW.move wn rfl rfl ?_
  refine LW.eqnil kUnd_31 wn rfl rfl rfl ?_
  refine LW.nil ?_
  refine EW.seq_n ?_
  refine CW.cond (b := oa.isNone) rfl (fun hb => ?_) (fun hb => ?_)
  · cases oa with
    | some _ => cases hb
    | none =>
      have h0 : a0 = [] := (SL.flat' s).1 rfl
      subst h0
      have hr : r = [] := by simp [app, bnd, LIM] at hm'; exact hm'
      subst hr
      refine CW.seq ?_
      refine CW.region ?_
      refine LW.assign wn rfl rfl ?_
      refine LW.nil ?_
      refine EW.seq_n ?_
      refine CW.ret ?_
      refine EW.seq_r ?_
      exact EW.ret1 rfl rfl ⟨lab, none, 0, rfl, ⟨rfl, rfl, rfl, Nat.le_refl _, fun _ _ _ => rfl, fun _ _ => rfl, t⟩, Own.nil, trivial⟩
  · refine CW.skip ?_
    refine EW.seq_n ?_
    refine CW.seq ?_
    refine CW.region ?_
    have cx := Cx.start t
    replace s := s.keep Keeps.lin
    refine LW.buildOwn (k := 2) (ρ := Rep.u8) (vs := []) (css := []) (xs := []) rfl kSl_31 kZero_5 (by kernel_rfl) rfl rfl trivial cx.top wn rfl ?_
    intro oa1 c1 lab1 w1 e1 o1
    replace cx := cx.step e1 rfl; replace s := s.step e1
    refine LW.move wn rfl rfl ?_
    refine LW.append (ρ := Rep.u8) (xs := []) (ys := a0) hm' o1 (SL.flat' s) cx.top rfl kSl_31 rfl wn rfl rfl rfl ?_
    intro zs oa2 c2 lab2 w2 hz e2 o2
    cases hz
    replace cx := cx.step e2 rfl
    refine LW.assign wn rfl rfl ?_
    refine LW.nil ?_
    refine EW.seq_n ?_
    refine CW.ret ?_
    obtain ⟨lab_, ste_, own_⟩ := o2.out cx t rfl k
    exact EW.ret1 rfl rfl ⟨_, _, _, rfl, ste_, own_, trivial⟩

def con_bytes_Clone : Con Tryd.prog := ⟨68, [.d (.sl (.int .u8))], [.d (.sl (.int .u8))], ⟨Tryd.f68, Tryd.func68, by kernel_rfl, by kernel_rfl⟩, m_bytes_Clone, by
  intro a r h k kp gp lab w vs t _ _ hk hargs
  match vs, hargs with
  | [v], hargs =>
    obtain ⟨hd, _⟩ := hargs
    obtain ⟨oa, c, rfl, s⟩ := Dat.sl hd
    refine (c_bytes_Clone (a0 := a.1) (r := r) h t s).mono ?_
    rintro e w' ⟨oa', c', rfl, hs, s', _⟩
    exact ⟨lab, [_], rfl, hs.stp (.inr rfl), Dat.ofSl (t := .int .u8) s', trivial⟩⟩
def con_bytes_Clone_o : Con Tryd.prog := ⟨68, [.d (.sl (.int .u8))], [.o 5 (.int .u8)], ⟨Tryd.f68, Tryd.func68, by kernel_rfl, by kernel_rfl⟩, m_bytes_Clone, by
  intro a r h k kp gp lab w vs t _ _ hk hargs
  match vs, hargs with
  | [v], hargs =>
    obtain ⟨hd, _⟩ := hargs
    obtain ⟨oa, c, rfl, s⟩ := Dat.sl hd
    refine (co_bytes_Clone (a0 := a.1) (r := r) (k := k) h t s).mono ?_
    rintro e w' ⟨lab', oa', c', rfl, hs, o, _⟩
    exact ⟨lab', [_], rfl, hs.stp (.inr rfl), ⟨oa', c', rfl, o⟩, trivial⟩⟩

def t_option_Get : Tab Tryd.prog := ⟨tes, ses, fes, bes, [con_bytes_Clone], [], fds, [], qes, ges, mes, []⟩
def h_option_Get : Hint := (.s .n (.s (.s .n (.b (.l (.a 11 10) ⟨[], [1, 9, 10]⟩ (.s .n (.s (.c .n .n) (.s (.b (.s .n (.s .n (.c (.s .n .n) .n)))) .n)))))) (.s .n .n)))

def con_option_Get : Con Tryd.prog := ⟨40, [.d P_api_Message, .d (.int .i64)], [.d (.sl (.int .u8)), .d .bool], ⟨Tryd.f40, Tryd.func40, by kernel_rfl, by kernel_rfl⟩, m_option_Get, fun a r h => mkM_ok (T := t_option_Get) (N := 23) (own := []) (rng := [10]) (c := (codeOf Tryd.f40)) (h := h_option_Get) (qs := [.tmp 4, .tmp 5]) kMix Tryd.func40 (by kernel_rfl) (by kernel_rfl) (by kernel_rfl) (by kernel_rfl) a r (Eq.trans (by kernel_rfl) h)⟩
def t_relay_has : Tab Tryd.prog := ⟨tes, ses, fes, bes, [con_option_Get], [], fds, [], qes, ges, mes, []⟩
def h_relay_has : Hint := (.s .n (.s .n (.s .n .n)))

def con_relay_has : Con Tryd.prog := ⟨19, [.d P_api_Message, .d (.int .i64)], [.d .bool], ⟨Tryd.f19, Tryd.func19, by kernel_rfl, by kernel_rfl⟩, m_relay_has, fun a r h => mkM_ok (T := t_relay_has) (N := 14) (own := []) (rng := []) (c := (codeOf Tryd.f19)) (h := h_relay_has) (qs := [.tmp 4]) kMix Tryd.func19 (by kernel_rfl) (by kernel_rfl) (by kernel_rfl) (by kernel_rfl) a r (Eq.trans (by kernel_rfl) h)⟩
def t_relay_Protected : Tab Tryd.prog := ⟨tes, ses, fes, bes, [con_relay_has], [], fds, [], qes, ges, mes, []⟩
def h_relay_Protected : Hint := (.s .n (.s .n .n))

def con_relay_Protected : Con Tryd.prog := ⟨17, [.d P_api_Message], [.d .bool], ⟨Tryd.f17, Tryd.func17, by kernel_rfl, by kernel_rfl⟩, m_relay_Protected, fun a r h => mkM_ok (T := t_relay_Protected) (N := 5) (own := []) (rng := []) (c := (codeOf Tryd.f17)) (h := h_relay_Protected) (qs := [.tmp 2]) kMix Tryd.func17 (by kernel_rfl) (by kernel_rfl) (by kernel_rfl) (by kernel_rfl) a r (Eq.trans (by kernel_rfl) h)⟩
def con_option_CacheKey : Con Tryd.prog := ⟨18, [.d P_api_Message], [.d (.sl (.int .u8))], ⟨Tryd.f18, Tryd.func18, by kernel_rfl, by kernel_rfl⟩, m_option_CacheKey, fun a r h => by cases (show (none : Option _) = some r from h)⟩

def con_cache_Lookup : Con Tryd.prog := ⟨20, [.d (.sl P_api_Cached), .d (.sl (.int .u8)), .d (.int .i64)], [.d P_api_Message, .d .bool], ⟨Tryd.f20, Tryd.func20, by kernel_rfl, by kernel_rfl⟩, m_cache_Lookup, fun a r h => by cases (show (none : Option _) = some r from h)⟩

def t_relay_Forward_1 : Tab Tryd.prog := ⟨tes, ses, fes, bes, [], [], fds, [], qes, ges, mes, []⟩
def h_relay_Forward_1 : Hint := (.s .n (.s .n .n))

def con_relay_Forward_1 : Con Tryd.prog := ⟨23, [.d (.cp (.int .i64))], [.d (.sl (.int .u8))], ⟨Tryd.f23, Tryd.func23, by kernel_rfl, by kernel_rfl⟩, m_relay_Forward_1, fun a r h => mkM_ok (T := t_relay_Forward_1) (N := 8) (own := []) (rng := []) (c := (codeOf Tryd.f23)) (h := h_relay_Forward_1) (qs := [.tmp 1]) kMix Tryd.func23 (by kernel_rfl) (by kernel_rfl) (by kernel_rfl) (by kernel_rfl) a r (Eq.trans (by kernel_rfl) h)⟩
def t_relay_Forward_1_o : Tab Tryd.prog := ⟨tes, ses, fes, bes, [], [], fds, [], qes, ges, mes, []⟩
def h_relay_Forward_1_o : Hint := (.s .n (.s .n .n))

def con_relay_Forward_1_o : Con Tryd.prog := ⟨23, [.d (.cp (.int .i64))], [.o 5 (.int .u8)], ⟨Tryd.f23, Tryd.func23, by kernel_rfl, by kernel_rfl⟩, m_relay_Forward_1_o, fun a r h => mkM_ok (T := t_relay_Forward_1_o) (N := 8) (own := [7]) (rng := []) (c := (codeOf Tryd.f23)) (h := h_relay_Forward_1_o) (qs := [.tmp 1]) kMix Tryd.func23 (by kernel_rfl) (by kernel_rfl) (by kernel_rfl) (by kernel_rfl) a r (Eq.trans (by kernel_rfl) h)⟩
def con_fragment_Cut : Con Tryd.prog := ⟨25, [.d P_api_Message, .d (.int .i64), .d (.int .i64), .d (.int .i64)], [.d P_api_Message, .d (.int .i64)], ⟨Tryd.f25, Tryd.func25, by kernel_rfl, by kernel_rfl⟩, m_fragment_Cut, fun a r h => by cases (show (none : Option _) = some r from h)⟩

def t_relay_Forward : Tab Tryd.prog := ⟨tes, ses, fes, bes, [con_coap_Encode, con_relay_Valid, con_relay_time, con_relay_cloned_o, con_relay_Protected, con_option_CacheKey, con_relay_has, con_cache_Lookup, con_relay_message, con_relay_copied, con_relay_Forward_1_o, con_relay_find, con_fragment_Cut], [14, 155, 4000019, 5000159], fds, [], qes, ges, mes, []⟩
def h_relay_Forward : Hint := (.s .n (.s (.s .n (.j ⟨[.d 60 .bool], [1, 3, 4, 6, 8]⟩ false .n (.c (.s .n .n) .n))) (.s .n (.s .n (.j ⟨[.d 15 (.sl (.int .u8))], [1, 3, 4, 6, 8, 14]⟩ false (.s .n (.c .n .n)) (.j ⟨[.b 8 28 P_api_Proxy], [1, 4, 6, 8, 14, 15]⟩ true (.j ⟨[.d 86 .bool], [1, 3, 4, 6, 8, 14, 15]⟩ false .n (.c (.s .n (.s .n (.c (.s .n (.s .n (.s .n .n))) .n))) .n)) (.s (.s .n (.c (.s .n .n) .n)) (.s .n (.s .n (.j ⟨[.b 19 3 (.int .i64)], [1, 4, 6, 8, 14, 15, 19, 20]⟩ false (.b (.l .g ⟨[.b 19 3 (.int .i64)], [1, 4, 6, 8, 14, 15, 19, 20]⟩ (.s (.s .n (.c .n .n)) (.b .n)))) (.s .n (.s .n (.s .n (.s .n (.s (.j ⟨[.d 184 .bool], [4, 8, 14, 19, 21]⟩ false .n (.c (.s .n .n) .n)) (.s .n (.s .n (.b (.l .g ⟨[.o 22 39 P_api_Message, .d 23 (.int .i64), .b 8 28 P_api_Proxy], [4, 8, 14, 19, 21]⟩ (.s (.b (.s .n (.s (.s .n (.c (.s .n .n) .n)) (.s .n .n)))) .n))))))))))))))))))))

def con_relay_Forward : Con Tryd.prog := ⟨6, [.d P_api_Proxy, .d (.int .i64), .d P_api_Message, .d (.int .i64)], [.d P_api_Proxy, .d (.sl P_api_Message), .d (.sl P_relay_Sent), .d (.int .i64)], ⟨Tryd.f6, Tryd.func6, by kernel_rfl, by kernel_rfl⟩, m_relay_Forward, fun a r h => mkM_ok (T := t_relay_Forward) (N := 211) (own := [154, 210]) (rng := []) (c := (codeOf Tryd.f6)) (h := h_relay_Forward) (qs := [.cell 8 28, .tmp 9, .tmp 10, .tmp 11]) kMix Tryd.func6 (by kernel_rfl) (by kernel_rfl) (by kernel_rfl) (by kernel_rfl) a r (Eq.trans (by kernel_rfl) h)⟩
def t_coresecmake_Deck_Bytes : Tab Tryd.prog := ⟨tes, ses, fes, bes, [con_coresecmake_Deck_Next], [], fds, [], qes, ges, mes, []⟩
def h_coresecmake_Deck_Bytes : Hint := (.s .n (.s .n (.s (.s .n (.b (.l .g ⟨[.o 5 5 (.int .u8), .d 6 (.int .i64), .b 0 51 P_coresecmake_Deck], [0]⟩ (.s (.s .n (.c .n .n)) (.s (.b .n) .n))))) (.s .n .n))))

def con_coresecmake_Deck_Bytes : Con Tryd.prog := ⟨27, [.p 51 P_coresecmake_Deck, .d (.int .i64)], [.d (.sl (.int .u8))], ⟨Tryd.f27, Tryd.func27, by kernel_rfl, by kernel_rfl⟩, m_coresecmake_Deck_Bytes, fun a r h => mkM_ok (T := t_coresecmake_Deck_Bytes) (N := 22) (own := [20]) (rng := []) (c := (codeOf Tryd.f27)) (h := h_coresecmake_Deck_Bytes) (qs := [.tmp 4]) kMix Tryd.func27 (by kernel_rfl) (by kernel_rfl) (by kernel_rfl) (by kernel_rfl) a r (Eq.trans (by kernel_rfl) h)⟩
def t_coresecref16_All : Tab Tryd.prog := ⟨tes, ses, fes, bes, [], [], fds, [], qes, ges, mes, []⟩
def h_coresecref16_All : Hint := (.s .n (.s .n (.s (.s .n (.b (.l (.a 11 10) ⟨[.o 5 31 (.sl (.int .u8))], [1, 9, 10]⟩ (.s .n (.s (.c .n .n) (.j ⟨[.o 5 31 (.sl (.int .u8))], [1, 9, 10, 11]⟩ false (.b (.s .n (.s .n (.c .n .n)))) .n)))))) (.s .n .n))))

def con_coresecref16_All : Con Tryd.prog := ⟨50, [.d P_api_Message, .d (.int .i64)], [.d (.sl (.sl (.int .u8)))], ⟨Tryd.f50, Tryd.func50, by kernel_rfl, by kernel_rfl⟩, m_coresecref16_All, fun a r h => mkM_ok (T := t_coresecref16_All) (N := 27) (own := [24]) (rng := [10]) (c := (codeOf Tryd.f50)) (h := h_coresecref16_All) (qs := [.tmp 4]) kMix Tryd.func50 (by kernel_rfl) (by kernel_rfl) (by kernel_rfl) (by kernel_rfl) a r (Eq.trans (by kernel_rfl) h)⟩
def t_coresecref16_All_o : Tab Tryd.prog := ⟨tes, ses, fes, bes, [], [], fds, [], qes, ges, mes, []⟩
def h_coresecref16_All_o : Hint := (.s .n (.s .n (.s (.s .n (.b (.l (.a 11 10) ⟨[.o 5 31 (.sl (.int .u8))], [1, 9, 10]⟩ (.s .n (.s (.c .n .n) (.j ⟨[.o 5 31 (.sl (.int .u8))], [1, 9, 10, 11]⟩ false (.b (.s .n (.s .n (.c .n .n)))) .n)))))) (.s .n .n))))

def con_coresecref16_All_o : Con Tryd.prog := ⟨50, [.d P_api_Message, .d (.int .i64)], [.o 31 (.sl (.int .u8))], ⟨Tryd.f50, Tryd.func50, by kernel_rfl, by kernel_rfl⟩, m_coresecref16_All_o, fun a r h => mkM_ok (T := t_coresecref16_All_o) (N := 27) (own := [24]) (rng := [10]) (c := (codeOf Tryd.f50)) (h := h_coresecref16_All_o) (qs := [.tmp 4]) kMix Tryd.func50 (by kernel_rfl) (by kernel_rfl) (by kernel_rfl) (by kernel_rfl) a r (Eq.trans (by kernel_rfl) h)⟩
def t_coresecmake2_dressed : Tab Tryd.prog := ⟨tes, ses, fes, bes, [con_coresecmake_Deck_Next, con_coresecref16_All_o, con_coresecmake_Deck_Bytes, con_coresecref16_Set], [], fds, [], qes, ges, mes, []⟩
def h_coresecmake2_dressed : Hint := (.s .n (.s (.s .n (.b (.l .g ⟨[.d 5 (.int .i64), .b 0 51 P_coresecmake_Deck, .b 3 39 P_api_Message], [0, 3, 4]⟩ (.s (.s .n (.c .n .n)) (.s (.b (.s .n .n)) .n))))) (.s .n .n)))

def con_coresecmake2_dressed : Con Tryd.prog := ⟨28, [.p 51 P_coresecmake_Deck, .d P_api_Message], [.d P_api_Message], ⟨Tryd.f28, Tryd.func28, by kernel_rfl, by kernel_rfl⟩, m_coresecmake2_dressed, fun a r h => mkM_ok (T := t_coresecmake2_dressed) (N := 29) (own := []) (rng := []) (c := (codeOf Tryd.f28)) (h := h_coresecmake2_dressed) (qs := [.cell 4 39]) kMix Tryd.func28 (by kernel_rfl) (by kernel_rfl) (by kernel_rfl) (by kernel_rfl) a r (Eq.trans (by kernel_rfl) h)⟩
def t_coresecmake2_Response : Tab Tryd.prog := ⟨tes, ses, fes, bes, [con_coresecmake_Deck_Next, con_coresecmake_Deck_Bytes, con_coresecmake2_dressed], [], fds, [], qes, ges, mes, []⟩
def h_coresecmake2_Response : Hint := (.s .n (.s .n (.s .n .n)))

def con_coresecmake2_Response : Con Tryd.prog := ⟨9, [.p 51 P_coresecmake_Deck], [.d P_api_Message], ⟨Tryd.f9, Tryd.func9, by kernel_rfl, by kernel_rfl⟩, m_coresecmake2_Response, fun a r h => mkM_ok (T := t_coresecmake2_Response) (N := 21) (own := []) (rng := []) (c := (codeOf Tryd.f9)) (h := h_coresecmake2_Response) (qs := [.cell 2 39]) kMix Tryd.func9 (by kernel_rfl) (by kernel_rfl) (by kernel_rfl) (by kernel_rfl) a r (Eq.trans (by kernel_rfl) h)⟩
def con_cache_Storable : Con Tryd.prog := ⟨29, [.d P_api_Message], [.d .bool], ⟨Tryd.f29, Tryd.func29, by kernel_rfl, by kernel_rfl⟩, m_cache_Storable, fun a r h => by cases (show (none : Option _) = some r from h)⟩

def con_cache_Insert : Con Tryd.prog := ⟨30, [.d (.sl P_api_Cached), .d (.sl (.int .u8)), .d P_api_Message, .d (.int .i64)], [.d (.sl P_api_Cached), .d (.int .i64)], ⟨Tryd.f30, Tryd.func30, by kernel_rfl, by kernel_rfl⟩, m_cache_Insert, fun a r h => by cases (show (none : Option _) = some r from h)⟩

def t_relay_Return : Tab Tryd.prog := ⟨tes, ses, fes, bes, [con_coap_Encode, con_relay_Valid, con_relay_time, con_relay_find, con_relay_cloned_o, con_relay_message, con_relay_copied, con_relay_has, con_relay_Protected, con_cache_Storable, con_cache_Insert], [12, 84, 5000111], fds, [], qes, ges, mes, []⟩
def h_relay_Return : Hint := (.s .n (.s (.s .n (.j ⟨[.d 38 .bool], [2, 3, 4, 6]⟩ false .n (.c (.s .n .n) .n))) (.s .n (.s (.s .n (.c (.s .n .n) .n)) (.s .n (.s (.s .n (.c (.s .n .n) .n)) (.s .n (.s .n (.s .n (.j ⟨[.h 12 28 P_api_Proxy 1 68 P_api_Hop], [2, 4, 6, 12, 13, 14]⟩ false (.j ⟨[.d 73 .bool], [2, 4, 6, 11, 12, 13, 14]⟩ false .n (.c .n .n)) (.j ⟨[.h 12 28 P_api_Proxy 1 68 P_api_Hop], [6, 12, 13, 14]⟩ false (.j ⟨[.d 97 .bool], [2, 4, 6, 12, 13, 14]⟩ false .n (.c (.s .n (.s .n (.c .n .n))) .n)) (.s .n .n))))))))))))

def con_relay_Return : Con Tryd.prog := ⟨10, [.d P_api_Proxy, .d P_api_Message, .d (.int .i64)], [.d P_api_Proxy, .d (.sl P_relay_Sent), .d (.int .i64)], ⟨Tryd.f10, Tryd.func10, by kernel_rfl, by kernel_rfl⟩, m_relay_Return, fun a r h => mkM_ok (T := t_relay_Return) (N := 118) (own := [83]) (rng := []) (c := (codeOf Tryd.f10)) (h := h_relay_Return) (qs := [.cell 6 28, .tmp 7, .tmp 8]) kMix Tryd.func10 (by kernel_rfl) (by kernel_rfl) (by kernel_rfl) (by kernel_rfl) a r (Eq.trans (by kernel_rfl) h)⟩
def t_coresecref01_Compare : Tab Tryd.prog := ⟨tes, ses, fes, bes, [], [], fds, [], qes, ges, mes, []⟩
def h_coresecref01_Compare : Hint := (.s .n (.s (.s .n (.b (.l .g ⟨[.d 5 (.int .i64)], [0, 1]⟩ (.s (.j ⟨[.d 15 .bool], [0, 1, 5]⟩ false .n (.c .n .n)) (.s (.b (.s .n (.c (.s (.s .n (.c (.s .n .n) .n)) (.s .n .n)) .n))) .n))))) (.s (.b (.s .n (.c (.s .n .n) (.s .n (.c (.s .n .n) .n))))) (.s .n .n))))

def con_coresecref01_Compare : Con Tryd.prog := ⟨31, [.d (.sl (.int .u8)), .d (.sl (.int .u8))], [.d (.int .i64)], ⟨Tryd.f31, Tryd.func31, by kernel_rfl, by kernel_rfl⟩, m_coresecref01_Compare, fun a r h => mkM_ok (T := t_coresecref01_Compare) (N := 48) (own := []) (rng := []) (c := (codeOf Tryd.f31)) (h := h_coresecref01_Compare) (qs := [.tmp 4]) kMix Tryd.func31 (by kernel_rfl) (by kernel_rfl) (by kernel_rfl) (by kernel_rfl) a r (Eq.trans (by kernel_rfl) h)⟩
def t_coresecref26_Equal : Tab Tryd.prog := ⟨tes, ses, fes, bes, [con_coresecref01_Compare], [], fds, [], qes, ges, mes, []⟩
def h_coresecref26_Equal : Hint := (.s .n (.j ⟨[.d 4 .bool], []⟩ false .n .n))

def con_coresecref26_Equal : Con Tryd.prog := ⟨11, [.d (.sl (.int .u8)), .d (.sl (.int .u8))], [.d .bool], ⟨Tryd.f11, Tryd.func11, by kernel_rfl, by kernel_rfl⟩, m_coresecref26_Equal, fun a r h => mkM_ok (T := t_coresecref26_Equal) (N := 16) (own := []) (rng := []) (c := (codeOf Tryd.f11)) (h := h_coresecref26_Equal) (qs := [.tmp 4]) kMix Tryd.func11 (by kernel_rfl) (by kernel_rfl) (by kernel_rfl) (by kernel_rfl) a r (Eq.trans (by kernel_rfl) h)⟩
def t_coresecref15_Same : Tab Tryd.prog := ⟨tes, ses, fes, bes, [], [], fds, [], qes, ges, mes, []⟩
def h_coresecref15_Same : Hint := (.s .n (.s (.j ⟨[.d 52 .bool], [2, 3]⟩ false .n (.c (.s .n .n) .n)) (.s (.s .n (.b (.l (.a 56 55) ⟨[], [3, 54, 55]⟩ (.s .n (.s (.c .n .n) (.s (.b (.s .n (.j ⟨[.d 82 .bool], [3, 54, 55, 56]⟩ false .n (.c (.s .n .n) .n)))) .n)))))) (.s .n .n))))

def con_coresecref15_Same : Con Tryd.prog := ⟨12, [.d P_api_Message, .d P_api_Message], [.d .bool], ⟨Tryd.f12, Tryd.func12, by kernel_rfl, by kernel_rfl⟩, m_coresecref15_Same, fun a r h => mkM_ok (T := t_coresecref15_Same) (N := 84) (own := []) (rng := [55]) (c := (codeOf Tryd.f12)) (h := h_coresecref15_Same) (qs := [.tmp 4]) kMix Tryd.func12 (by kernel_rfl) (by kernel_rfl) (by kernel_rfl) (by kernel_rfl) a r (Eq.trans (by kernel_rfl) h)⟩
def t_coreseclaw34_RelaySeparates : Tab Tryd.prog := ⟨tes, ses, fes, bes, [con_coresecmake_New, con_coresecmake_Deck_Next, con_coresecref16_Set, con_relay_Forward, con_coresecmake_Mod, con_coresecmake2_Response, con_relay_Return, con_coresecref26_Equal, con_coresecref15_Same], [], fds, [], qes, ges, mes, []⟩
def h_coreseclaw34_RelaySeparates : Hint := (.s .n (.s .n (.s .n (.s .n (.s .n (.s (.s .n (.b (.l .g ⟨[.o 7 31 (.sl (.int .u8)), .o 8 31 (.sl (.int .u8)), .d 10 (.int .i64), .b 6 28 P_api_Proxy, .b 5 51 P_coresecmake_Deck], [1, 5, 6, 9]⟩ (.s (.s .n (.c .n .n)) (.s (.b (.s .n (.s .n (.s (.j ⟨[.d 58 .bool], [1, 5, 6, 7, 8, 9, 10, 11, 12, 13]⟩ false .n (.c (.s .n .n) .n)) .n)))) .n))))) (.s .n (.s .n (.s .n (.j ⟨[.b 17 39 P_api_Message], [6, 8, 9, 16, 17]⟩ false (.s .n (.c .n .n)) (.s .n (.s (.j ⟨[.d 127 .bool], [17, 19]⟩ false .n (.c (.s .n .n) .n)) (.s .n (.s .n (.s .n .n)))))))))))))))

def con_coreseclaw34_RelaySeparates : Con Tryd.prog := ⟨3, [.d (.sl (.int .i64)), .d (.int .i64)], [.d .bool], ⟨Tryd.f3, Tryd.func3, by kernel_rfl, by kernel_rfl⟩, m_coreseclaw34_RelaySeparates, fun a r h => mkM_ok (T := t_coreseclaw34_RelaySeparates) (N := 141) (own := [66, 70]) (rng := []) (c := (codeOf Tryd.f3)) (h := h_coreseclaw34_RelaySeparates) (qs := [.tmp 4]) kMix Tryd.func3 (by kernel_rfl) (by kernel_rfl) (by kernel_rfl) (by kernel_rfl) a r (Eq.trans (by kernel_rfl) h)⟩
end
end Go.Proofs.YtcbkmlfkfhfliaaDoor
