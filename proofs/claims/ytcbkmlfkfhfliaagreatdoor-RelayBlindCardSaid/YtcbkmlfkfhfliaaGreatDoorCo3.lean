/-
  The functions compute their models: what the evaluator gives is the model, by the kernel. No condition.
-/
import Derived.Test.YtcbkmlfkfhfliaaGreatDoorCo2
namespace Go.Proofs.YtcbkmlfkfhfliaaGreatDoor
open Go.Gk Go.RowKit
noncomputable section
set_option maxRecDepth 100000
def t_coreseclaw34_RelayForwards : Tab Tryz.prog := ⟨tes, ses, fes, bes, [con_coreseclaw34_light, con_coresecmake2_Message, con_coreseclaw34_awake, con_coresecmake_New, con_coreseclaw34_worked, con_relay_Valid, con_coresecref34_Valid, con_relay_Protected, con_coresecref34_Protected, con_coresecmake_Mod, con_relay_Drop, con_coresecref34_Drop, con_coresecref34_Same, con_coreseclaw34_request, con_relay_Forward, con_coresecref34_Forward, con_coreseclaw34_sameList, con_coreseclaw34_sameSent], [], fds, [], qes, ges, mes, []⟩
def h_coreseclaw34_RelayForwards : Hint := (.s .n (.s (.j ⟨[.d 35 .bool], [2, 3, 4, 5, 6]⟩ false .n (.c (.s .n .n) .n)) (.s .n (.s .n (.s (.s .n (.b (.l (.a 48 47) ⟨[.b 11 77 P_coresecmake_Deck], [3, 4, 6, 11, 13, 46, 47]⟩ (.s .n (.s (.c .n .n) (.s (.b (.s .n (.s (.j ⟨[.d 75 .bool], [3, 4, 6, 11, 13, 15, 46, 47, 48]⟩ false .n (.c (.s .n .n) .n)) (.s .n (.b (.l (.n 81 80) ⟨[], [3, 4, 6, 11, 13, 15, 46, 47, 48, 79, 80]⟩ (.s .n (.s (.c .n .n) (.s (.b (.s .n (.s .n (.b (.l (.a 94 93) ⟨[], [3, 4, 6, 11, 13, 15, 17, 46, 47, 48, 79, 80, 81, 92, 93]⟩ (.s .n (.s (.c .n .n) (.s (.b (.s .n (.s .n (.s .n (.j ⟨[.d 146 .bool], [3, 4, 6, 11, 13, 15, 17, 46, 47, 48, 79, 80, 81, 92, 93, 94]⟩ false .n (.c (.s .n .n) .n)))))) .n)))))))) .n))))))))) .n)))))) (.s .n .n))))))

def con_coreseclaw34_RelayForwards : Con Tryz.prog := ⟨3, [.d P_api_Proxy, .d P_api_Message, .d (.sl (.int .i64)), .d (.int .i64), .d (.int .i64)], [.d .bool], ⟨Tryz.f3, Tryz.func3, by kernel_rfl, by kernel_rfl⟩, m_coreseclaw34_RelayForwards, fun a r h => mkM_ok (T := t_coreseclaw34_RelayForwards) (N := 151) (own := []) (rng := [47, 93]) (c := (codeOf Tryz.f3)) (h := h_coreseclaw34_RelayForwards) (qs := [.tmp 10]) kMix Tryz.func3 (by kernel_rfl) (by kernel_rfl) (by kernel_rfl) (by kernel_rfl) a r (Eq.trans (by kernel_rfl) h)⟩
def t_option_Uint : Tab Tryz.prog := ⟨tes, ses, fes, bes, [], [], fds, [], qes, ges, mes, []⟩
def h_option_Uint : Hint := (.s .n (.s .n (.s (.s .n (.b (.l (.a 9 8) ⟨[.d 4 (.int .i64)], [7, 8]⟩ (.s .n (.s (.c .n .n) (.s (.b (.s .n (.s .n (.s .n (.c (.s .n .n) .n))))) .n)))))) (.s .n .n))))

def con_option_Uint : Con Tryz.prog := ⟨129, [.d (.sl (.int .u8))], [.d (.int .i64), .d (.int .i64)], ⟨Tryz.f129, Tryz.func129, by kernel_rfl, by kernel_rfl⟩, m_option_Uint, fun a r h => mkM_ok (T := t_option_Uint) (N := 22) (own := []) (rng := [8]) (c := (codeOf Tryz.f129)) (h := h_option_Uint) (qs := [.tmp 2, .tmp 3]) kMix Tryz.func129 (by kernel_rfl) (by kernel_rfl) (by kernel_rfl) (by kernel_rfl) a r (Eq.trans (by kernel_rfl) h)⟩
def t_cache_MaxAge : Tab Tryz.prog := ⟨tes, ses, fes, bes, [con_option_Get, con_option_Uint], [], fds, [], qes, ges, mes, []⟩
def h_cache_MaxAge : Hint := (.s .n (.s .n (.s (.b (.s .n (.c (.s .n .n) (.s .n (.c (.s .n .n) .n))))) (.s .n (.s .n .n)))))

def con_cache_MaxAge : Con Tryz.prog := ⟨103, [.d P_api_Message], [.d (.int .i64)], ⟨Tryz.f103, Tryz.func103, by kernel_rfl, by kernel_rfl⟩, m_cache_MaxAge, fun a r h => mkM_ok (T := t_cache_MaxAge) (N := 25) (own := []) (rng := []) (c := (codeOf Tryz.f103)) (h := h_cache_MaxAge) (qs := [.tmp 2]) kMix Tryz.func103 (by kernel_rfl) (by kernel_rfl) (by kernel_rfl) (by kernel_rfl) a r (Eq.trans (by kernel_rfl) h)⟩
def t_block_Parse : Tab Tryz.prog := ⟨tes, ses, fes, bes, [con_option_Uint], [], fds, [], qes, ges, mes, []⟩
def h_block_Parse : Hint := (.s .n (.s .n (.s (.j ⟨[.d 22 .bool], [2, 4]⟩ false .n (.c (.s .n .n) .n)) (.s .n .n))))

def con_block_Parse : Con Tryz.prog := ⟨104, [.d (.sl (.int .u8))], [.d P_api_Block, .d (.int .i64)], ⟨Tryz.f104, Tryz.func104, by kernel_rfl, by kernel_rfl⟩, m_block_Parse, fun a r h => mkM_ok (T := t_block_Parse) (N := 32) (own := []) (rng := []) (c := (codeOf Tryz.f104)) (h := h_block_Parse) (qs := [.cell 2 103, .tmp 3]) kMix Tryz.func104 (by kernel_rfl) (by kernel_rfl) (by kernel_rfl) (by kernel_rfl) a r (Eq.trans (by kernel_rfl) h)⟩
def t_cache_Storable : Tab Tryz.prog := ⟨tes, ses, fes, bes, [con_coap_Valid, con_cache_MaxAge, con_option_Get, con_option_All, con_block_Parse], [], fds, [], qes, ges, mes, []⟩
def h_cache_Storable : Hint := (.s .n (.s (.j ⟨[.d 25 .bool], [1]⟩ false .n (.c (.s .n .n) .n)) (.s (.s .n (.s .n (.c (.s .n .n) .n))) (.s .n (.s (.s .n (.c (.s .n .n) .n)) (.s .n (.j ⟨[.d 2 .bool], []⟩ false .n .n)))))))

def con_cache_Storable : Con Tryz.prog := ⟨61, [.d P_api_Message], [.d .bool], ⟨Tryz.f61, Tryz.func61, by kernel_rfl, by kernel_rfl⟩, m_cache_Storable, fun a r h => mkM_ok (T := t_cache_Storable) (N := 61) (own := []) (rng := []) (c := (codeOf Tryz.f61)) (h := h_cache_Storable) (qs := [.tmp 2]) kMix Tryz.func61 (by kernel_rfl) (by kernel_rfl) (by kernel_rfl) (by kernel_rfl) a r (Eq.trans (by kernel_rfl) h)⟩
def t_cache_argument : Tab Tryz.prog := ⟨tes, ses, fes, bes, [con_cache_Valid, con_cache_keyed], [], fds, [], qes, ges, mes, []⟩
def h_cache_argument : Hint := (.s .n (.s (.j ⟨[.d 22 .bool], []⟩ false .n (.c (.s .n .n) .n)) (.s .n .n)))

def con_cache_argument : Con Tryz.prog := ⟨105, [.d (.sl P_api_Cached), .d (.sl (.int .u8)), .d (.int .i64)], [.d (.int .i64)], ⟨Tryz.f105, Tryz.func105, by kernel_rfl, by kernel_rfl⟩, m_cache_argument, fun a r h => mkM_ok (T := t_cache_argument) (N := 23) (own := []) (rng := []) (c := (codeOf Tryz.f105)) (h := h_cache_argument) (qs := [.tmp 6]) kMix Tryz.func105 (by kernel_rfl) (by kernel_rfl) (by kernel_rfl) (by kernel_rfl) a r (Eq.trans (by kernel_rfl) h)⟩
def t_cache_element : Tab Tryz.prog := ⟨tes, ses, fes, bes, [con_bytes_Clone], [17, 36], fds, [], qes, ges, mes, []⟩
def h_cache_element : Hint := (.s .n (.s .n (.s .n (.s .n (.s .n (.s (.s .n (.b (.l (.a 22 21) ⟨[.h 3 29 P_api_Message 4 75 P_api_Option], [1, 2, 3, 20, 21]⟩ (.s .n (.s (.c .n .n) (.s (.b (.s .n .n)) .n)))))) (.s .n (.s .n .n))))))))

def con_cache_element : Con Tryz.prog := ⟨106, [.d P_api_Cached], [.d P_api_Cached], ⟨Tryz.f106, Tryz.func106, by kernel_rfl, by kernel_rfl⟩, m_cache_element, fun a r h => mkM_ok (T := t_cache_element) (N := 41) (own := [35]) (rng := [21]) (c := (codeOf Tryz.f106)) (h := h_cache_element) (qs := [.cell 2 72]) kMix Tryz.func106 (by kernel_rfl) (by kernel_rfl) (by kernel_rfl) (by kernel_rfl) a r (Eq.trans (by kernel_rfl) h)⟩
def t_cache_all : Tab Tryz.prog := ⟨tes, ses, fes, bes, [con_cache_element], [], fds, [], qes, ges, mes, []⟩
def h_cache_all : Hint := (.s .n (.s .n (.s (.s .n (.b (.l (.a 8 7) ⟨[.o 3 72 P_api_Cached], [6, 7]⟩ (.s .n (.s (.c .n .n) (.s (.b (.s .n .n)) .n)))))) (.s .n .n))))

def con_cache_all : Con Tryz.prog := ⟨107, [.d (.sl P_api_Cached)], [.d (.sl P_api_Cached)], ⟨Tryz.f107, Tryz.func107, by kernel_rfl, by kernel_rfl⟩, m_cache_all, fun a r h => mkM_ok (T := t_cache_all) (N := 19) (own := [16]) (rng := [7]) (c := (codeOf Tryz.f107)) (h := h_cache_all) (qs := [.tmp 2]) kMix Tryz.func107 (by kernel_rfl) (by kernel_rfl) (by kernel_rfl) (by kernel_rfl) a r (Eq.trans (by kernel_rfl) h)⟩
def t_cache_all_o : Tab Tryz.prog := ⟨tes, ses, fes, bes, [con_cache_element], [], fds, [], qes, ges, mes, []⟩
def h_cache_all_o : Hint := (.s .n (.s .n (.s (.s .n (.b (.l (.a 8 7) ⟨[.o 3 72 P_api_Cached], [6, 7]⟩ (.s .n (.s (.c .n .n) (.s (.b (.s .n .n)) .n)))))) (.s .n .n))))

def con_cache_all_o : Con Tryz.prog := ⟨107, [.d (.sl P_api_Cached)], [.o 72 P_api_Cached], ⟨Tryz.f107, Tryz.func107, by kernel_rfl, by kernel_rfl⟩, m_cache_all_o, fun a r h => mkM_ok (T := t_cache_all_o) (N := 19) (own := [16]) (rng := [7]) (c := (codeOf Tryz.f107)) (h := h_cache_all_o) (qs := [.tmp 2]) kMix Tryz.func107 (by kernel_rfl) (by kernel_rfl) (by kernel_rfl) (by kernel_rfl) a r (Eq.trans (by kernel_rfl) h)⟩
def t_cache_oldest : Tab Tryz.prog := ⟨tes, ses, fes, bes, [], [], fds, [], qes, ges, mes, []⟩
def h_cache_oldest : Hint := (.s .n (.s .n (.s (.s .n (.b (.l (.a 8 7) ⟨[.d 3 (.int .i64)], [0, 6, 7]⟩ (.s .n (.s (.c .n .n) (.j ⟨[.d 3 (.int .i64)], [0, 6, 7, 8]⟩ false (.b (.s .n (.s .n (.c .n .n)))) .n)))))) (.s .n .n))))

def con_cache_oldest : Con Tryz.prog := ⟨108, [.d (.sl P_api_Cached)], [.d (.int .i64)], ⟨Tryz.f108, Tryz.func108, by kernel_rfl, by kernel_rfl⟩, m_cache_oldest, fun a r h => mkM_ok (T := t_cache_oldest) (N := 24) (own := []) (rng := [7]) (c := (codeOf Tryz.f108)) (h := h_cache_oldest) (qs := [.tmp 2]) kMix Tryz.func108 (by kernel_rfl) (by kernel_rfl) (by kernel_rfl) (by kernel_rfl) a r (Eq.trans (by kernel_rfl) h)⟩
def t_cache_Insert : Tab Tryz.prog := ⟨tes, ses, fes, bes, [con_cache_argument, con_cache_Storable, con_cache_MaxAge, con_cache_element, con_cache_all_o, con_cache_find, con_cache_oldest], [], fds, [], qes, ges, mes, []⟩
def h_cache_Insert : Hint := (.s .n (.s (.s .n (.s .n (.c (.s .n .n) .n))) (.s (.s .n (.c (.s .n .n) .n)) (.s .n (.s .n (.s .n (.s .n (.s (.s .n (.s .n (.c (.s .n (.s .n .n)) .n))) (.j ⟨[.o 13 72 P_api_Cached], [12]⟩ false (.s .n (.c (.s .n .n) .n)) (.s .n .n))))))))))

def con_cache_Insert : Con Tryz.prog := ⟨62, [.d (.sl P_api_Cached), .d (.sl (.int .u8)), .d P_api_Message, .d (.int .i64)], [.d (.sl P_api_Cached), .d (.int .i64)], ⟨Tryz.f62, Tryz.func62, by kernel_rfl, by kernel_rfl⟩, m_cache_Insert, fun a r h => mkM_ok (T := t_cache_Insert) (N := 66) (own := [61]) (rng := []) (c := (codeOf Tryz.f62)) (h := h_cache_Insert) (qs := [.tmp 8, .tmp 9]) kMix Tryz.func62 (by kernel_rfl) (by kernel_rfl) (by kernel_rfl) (by kernel_rfl) a r (Eq.trans (by kernel_rfl) h)⟩
def t_relay_Return : Tab Tryz.prog := ⟨tes, ses, fes, bes, [con_coap_Encode, con_relay_Valid, con_relay_time, con_relay_find, con_relay_cloned_o, con_relay_message, con_relay_copied, con_relay_has, con_relay_Protected, con_cache_Storable, con_cache_Insert], [12, 84, 5000111], fds, [], qes, ges, mes, []⟩
def h_relay_Return : Hint := (.s .n (.s (.s .n (.j ⟨[.d 38 .bool], [2, 3, 4, 6]⟩ false .n (.c (.s .n .n) .n))) (.s .n (.s (.s .n (.c (.s .n .n) .n)) (.s .n (.s (.s .n (.c (.s .n .n) .n)) (.s .n (.s .n (.s .n (.j ⟨[.h 12 25 P_api_Proxy 1 69 P_api_Hop], [2, 4, 6, 12, 13, 14]⟩ false (.j ⟨[.d 73 .bool], [2, 4, 6, 11, 12, 13, 14]⟩ false .n (.c .n .n)) (.j ⟨[.h 12 25 P_api_Proxy 1 69 P_api_Hop], [6, 12, 13, 14]⟩ false (.j ⟨[.d 97 .bool], [2, 4, 6, 12, 13, 14]⟩ false .n (.c (.s .n (.s .n (.c .n .n))) .n)) (.s .n .n))))))))))))

def con_relay_Return : Con Tryz.prog := ⟨25, [.d P_api_Proxy, .d P_api_Message, .d (.int .i64)], [.d P_api_Proxy, .d (.sl P_relay_Sent), .d (.int .i64)], ⟨Tryz.f25, Tryz.func25, by kernel_rfl, by kernel_rfl⟩, m_relay_Return, fun a r h => mkM_ok (T := t_relay_Return) (N := 118) (own := [83]) (rng := []) (c := (codeOf Tryz.f25)) (h := h_relay_Return) (qs := [.cell 6 25, .tmp 7, .tmp 8]) kMix Tryz.func25 (by kernel_rfl) (by kernel_rfl) (by kernel_rfl) (by kernel_rfl) a r (Eq.trans (by kernel_rfl) h)⟩
end
end Go.Proofs.YtcbkmlfkfhfliaaGreatDoor
