/-
  The functions compute their models: what the evaluator gives is the model, by the kernel. No condition.
-/
import Derived.Test.YtdgpkkfkloapbaaMo
namespace Go.Proofs.Ytdgpkkfkloapbaa
open Go.Gk Go.RowKit
noncomputable section
set_option maxRecDepth 100000
def t_coresecmake_New : Tab Try.prog := ⟨tes, ses, fes, bes, [], [], fds, []⟩
def h_coresecmake_New : Hint := (.s .n (.s .n .n))

def con_coresecmake_New : Con Try.prog := ⟨10, [.d (.sl (.int .i64))], [.p 66 P_coresecmake_Deck], ⟨Try.f10, Try.func10, by kernel_rfl, by kernel_rfl⟩, m_coresecmake_New, fun a r h => mkM_ok (T := t_coresecmake_New) (N := 6) (own := []) (rng := []) (c := (codeOf Try.f10)) (h := h_coresecmake_New) (qs := [.tmp 2]) kMix Try.func10 (by kernel_rfl) (by kernel_rfl) (by kernel_rfl) (by kernel_rfl) a r (Eq.trans (by kernel_rfl) h)⟩
def t_coresecmake_Mod : Tab Try.prog := ⟨tes, ses, fes, bes, [], [], fds, []⟩
def h_coresecmake_Mod : Hint := (.s .n (.s .n (.j ⟨[.d 5 (.int .i64)], []⟩ false (.s .n (.c .n .n)) (.s .n .n))))

def con_coresecmake_Mod : Con Try.prog := ⟨23, [.d (.int .i64), .d (.int .i64)], [.d (.int .i64)], ⟨Try.f23, Try.func23, by kernel_rfl, by kernel_rfl⟩, m_coresecmake_Mod, fun a r h => mkM_ok (T := t_coresecmake_Mod) (N := 15) (own := []) (rng := []) (c := (codeOf Try.f23)) (h := h_coresecmake_Mod) (qs := [.tmp 4]) kMix Try.func23 (by kernel_rfl) (by kernel_rfl) (by kernel_rfl) (by kernel_rfl) a r (Eq.trans (by kernel_rfl) h)⟩
def t_coresecmake_Deck_Next : Tab Try.prog := ⟨tes, ses, fes, bes, [con_coresecmake_Mod], [], fds, []⟩
def h_coresecmake_Deck_Next : Hint := (.s .n (.s (.s .n (.c (.s .n .n) .n)) (.s .n (.s .n .n))))

def con_coresecmake_Deck_Next : Con Try.prog := ⟨11, [.p 66 P_coresecmake_Deck, .d (.int .i64)], [.d (.int .i64)], ⟨Try.f11, Try.func11, by kernel_rfl, by kernel_rfl⟩, m_coresecmake_Deck_Next, fun a r h => mkM_ok (T := t_coresecmake_Deck_Next) (N := 35) (own := []) (rng := []) (c := (codeOf Try.f11)) (h := h_coresecmake_Deck_Next) (qs := [.tmp 4]) kMix Try.func11 (by kernel_rfl) (by kernel_rfl) (by kernel_rfl) (by kernel_rfl) a r (Eq.trans (by kernel_rfl) h)⟩
def t_coresecmake_Deck_Bytes : Tab Try.prog := ⟨tes, ses, fes, bes, [con_coresecmake_Deck_Next], [], fds, []⟩
def h_coresecmake_Deck_Bytes : Hint := (.s .n (.s .n (.s (.s .n (.b (.l .g ⟨[.o 5 5 (.int .u8), .d 6 (.int .i64), .b 0 66 P_coresecmake_Deck], [0]⟩ (.s (.s .n (.c .n .n)) (.s (.b .n) .n))))) (.s .n .n))))

def con_coresecmake_Deck_Bytes : Con Try.prog := ⟨40, [.p 66 P_coresecmake_Deck, .d (.int .i64)], [.d (.sl (.int .u8))], ⟨Try.f40, Try.func40, by kernel_rfl, by kernel_rfl⟩, m_coresecmake_Deck_Bytes, fun a r h => mkM_ok (T := t_coresecmake_Deck_Bytes) (N := 22) (own := [20]) (rng := []) (c := (codeOf Try.f40)) (h := h_coresecmake_Deck_Bytes) (qs := [.tmp 4]) kMix Try.func40 (by kernel_rfl) (by kernel_rfl) (by kernel_rfl) (by kernel_rfl) a r (Eq.trans (by kernel_rfl) h)⟩
def t_coresecref16_All : Tab Try.prog := ⟨tes, ses, fes, bes, [], [], fds, []⟩
def h_coresecref16_All : Hint := (.s .n (.s .n (.s (.s .n (.b (.l (.a 11 10) ⟨[.o 5 22 (.sl (.int .u8))], [1, 9, 10]⟩ (.s .n (.s (.c .n .n) (.j ⟨[.o 5 22 (.sl (.int .u8))], [1, 9, 10, 11]⟩ false (.b (.s .n (.s .n (.c .n .n)))) .n)))))) (.s .n .n))))

def con_coresecref16_All : Con Try.prog := ⟨67, [.d P_api_Message, .d (.int .i64)], [.d (.sl (.sl (.int .u8)))], ⟨Try.f67, Try.func67, by kernel_rfl, by kernel_rfl⟩, m_coresecref16_All, fun a r h => mkM_ok (T := t_coresecref16_All) (N := 27) (own := [24]) (rng := [10]) (c := (codeOf Try.f67)) (h := h_coresecref16_All) (qs := [.tmp 4]) kMix Try.func67 (by kernel_rfl) (by kernel_rfl) (by kernel_rfl) (by kernel_rfl) a r (Eq.trans (by kernel_rfl) h)⟩
def t_coresecref16_All_o : Tab Try.prog := ⟨tes, ses, fes, bes, [], [], fds, []⟩
def h_coresecref16_All_o : Hint := (.s .n (.s .n (.s (.s .n (.b (.l (.a 11 10) ⟨[.o 5 22 (.sl (.int .u8))], [1, 9, 10]⟩ (.s .n (.s (.c .n .n) (.j ⟨[.o 5 22 (.sl (.int .u8))], [1, 9, 10, 11]⟩ false (.b (.s .n (.s .n (.c .n .n)))) .n)))))) (.s .n .n))))

def con_coresecref16_All_o : Con Try.prog := ⟨67, [.d P_api_Message, .d (.int .i64)], [.o 22 (.sl (.int .u8))], ⟨Try.f67, Try.func67, by kernel_rfl, by kernel_rfl⟩, m_coresecref16_All_o, fun a r h => mkM_ok (T := t_coresecref16_All_o) (N := 27) (own := [24]) (rng := [10]) (c := (codeOf Try.f67)) (h := h_coresecref16_All_o) (qs := [.tmp 4]) kMix Try.func67 (by kernel_rfl) (by kernel_rfl) (by kernel_rfl) (by kernel_rfl) a r (Eq.trans (by kernel_rfl) h)⟩
def t_coresecref16_with : Tab Try.prog := ⟨tes, ses, fes, bes, [], [], fds, []⟩
def h_coresecref16_with : Hint := (.s .n (.s .n (.s .n (.s (.s .n (.b (.l (.a 18 17) ⟨[.o 5 63 P_api_Option], [2, 4, 16, 17]⟩ (.s .n (.s (.c .n .n) (.s (.b (.s .n .n)) .n)))))) (.s .n (.s .n .n))))))

def con_coresecref16_with : Con Try.prog := ⟨39, [.d P_api_Message, .d (.sl P_api_Option)], [.d P_api_Message], ⟨Try.f39, Try.func39, by kernel_rfl, by kernel_rfl⟩, m_coresecref16_with, fun a r h => mkM_ok (T := t_coresecref16_with) (N := 35) (own := [30]) (rng := [17]) (c := (codeOf Try.f39)) (h := h_coresecref16_with) (qs := [.cell 4 25]) kMix Try.func39 (by kernel_rfl) (by kernel_rfl) (by kernel_rfl) (by kernel_rfl) a r (Eq.trans (by kernel_rfl) h)⟩
def t_coresecref16_Set : Tab Try.prog := ⟨tes, ses, fes, bes, [con_coresecref16_with], [], fds, []⟩
def h_coresecref16_Set : Hint := (.s .n (.s .n (.s (.s .n (.b (.l (.a 17 16) ⟨[.o 7 63 P_api_Option], [1, 2, 3, 6, 15, 16]⟩ (.s .n (.s (.c .n .n) (.j ⟨[.o 7 63 P_api_Option], [1, 2, 3, 6, 15, 16, 17]⟩ false (.b (.s .n (.s .n (.c .n .n)))) .n)))))) (.s (.s .n (.b (.l (.a 32 31) ⟨[.o 7 63 P_api_Option], [1, 3, 6, 30, 31]⟩ (.s .n (.s (.c .n .n) (.s (.b (.s .n .n)) .n)))))) (.s (.s .n (.b (.l (.a 46 45) ⟨[.o 7 63 P_api_Option], [1, 3, 6, 44, 45]⟩ (.s .n (.s (.c .n .n) (.j ⟨[.o 7 63 P_api_Option], [1, 3, 6, 44, 45, 46]⟩ false (.b (.s .n (.s .n (.c .n .n)))) .n)))))) (.s .n .n))))))

def con_coresecref16_Set : Con Try.prog := ⟨12, [.d P_api_Message, .d (.int .i64), .d (.sl (.sl (.int .u8)))], [.d P_api_Message], ⟨Try.f12, Try.func12, by kernel_rfl, by kernel_rfl⟩, m_coresecref16_Set, fun a r h => mkM_ok (T := t_coresecref16_Set) (N := 62) (own := [28, 41, 57]) (rng := [16, 31, 45]) (c := (codeOf Try.f12)) (h := h_coresecref16_Set) (qs := [.cell 6 25]) kMix Try.func12 (by kernel_rfl) (by kernel_rfl) (by kernel_rfl) (by kernel_rfl) a r (Eq.trans (by kernel_rfl) h)⟩
def t_coresecmake2_dressed : Tab Try.prog := ⟨tes, ses, fes, bes, [con_coresecmake_Deck_Next, con_coresecref16_All_o, con_coresecmake_Deck_Bytes, con_coresecref16_Set], [], fds, []⟩
def h_coresecmake2_dressed : Hint := (.s .n (.s (.s .n (.b (.l .g ⟨[.d 5 (.int .i64), .b 0 66 P_coresecmake_Deck, .b 3 25 P_api_Message], [0, 3, 4]⟩ (.s (.s .n (.c .n .n)) (.s (.b (.s .n .n)) .n))))) (.s .n .n)))

def con_coresecmake2_dressed : Con Try.prog := ⟨41, [.p 66 P_coresecmake_Deck, .d P_api_Message], [.d P_api_Message], ⟨Try.f41, Try.func41, by kernel_rfl, by kernel_rfl⟩, m_coresecmake2_dressed, fun a r h => mkM_ok (T := t_coresecmake2_dressed) (N := 29) (own := []) (rng := []) (c := (codeOf Try.f41)) (h := h_coresecmake2_dressed) (qs := [.cell 4 25]) kMix Try.func41 (by kernel_rfl) (by kernel_rfl) (by kernel_rfl) (by kernel_rfl) a r (Eq.trans (by kernel_rfl) h)⟩
def t_coresecmake2_Request : Tab Try.prog := ⟨tes, ses, fes, bes, [con_coresecmake_Deck_Next, con_coresecmake_Deck_Bytes, con_coresecmake2_dressed], [], fds, []⟩
def h_coresecmake2_Request : Hint := (.s .n (.s .n (.s .n .n)))

def con_coresecmake2_Request : Con Try.prog := ⟨13, [.p 66 P_coresecmake_Deck], [.d P_api_Message], ⟨Try.f13, Try.func13, by kernel_rfl, by kernel_rfl⟩, m_coresecmake2_Request, fun a r h => mkM_ok (T := t_coresecmake2_Request) (N := 19) (own := []) (rng := []) (c := (codeOf Try.f13)) (h := h_coresecmake2_Request) (qs := [.cell 2 25]) kMix Try.func13 (by kernel_rfl) (by kernel_rfl) (by kernel_rfl) (by kernel_rfl) a r (Eq.trans (by kernel_rfl) h)⟩
def t_coresecmake_Some : Tab Try.prog := ⟨tes, ses, fes, bes, [], [], fds, []⟩
def h_coresecmake_Some : Hint := (.s .n (.s .n (.s (.s .n (.b (.l (.n 8 7) ⟨[.o 5 5 (.int .u8)], [0, 7]⟩ (.s .n (.s (.c .n .n) (.s (.b (.s .n .n)) .n)))))) (.s .n .n))))

def con_coresecmake_Some : Con Try.prog := ⟨16, [.d (.int .i64), .d (.int .i64)], [.d (.sl (.int .u8))], ⟨Try.f16, Try.func16, by kernel_rfl, by kernel_rfl⟩, m_coresecmake_Some, fun a r h => mkM_ok (T := t_coresecmake_Some) (N := 28) (own := [25]) (rng := []) (c := (codeOf Try.f16)) (h := h_coresecmake_Some) (qs := [.tmp 4]) kMix Try.func16 (by kernel_rfl) (by kernel_rfl) (by kernel_rfl) (by kernel_rfl) a r (Eq.trans (by kernel_rfl) h)⟩
def t_coreseclaw33_body : Tab Try.prog := ⟨tes, ses, fes, bes, [con_coresecmake2_Request, con_coresecref16_Set, con_coresecmake_Deck_Next, con_coresecmake_Some], [], fds, []⟩
def h_coreseclaw33_body : Hint := (.s .n (.s .n (.s .n (.s .n (.s .n .n)))))

def con_coreseclaw33_body : Con Try.prog := ⟨22, [.p 66 P_coresecmake_Deck], [.d P_api_Message], ⟨Try.f22, Try.func22, by kernel_rfl, by kernel_rfl⟩, m_coreseclaw33_body, fun a r h => mkM_ok (T := t_coreseclaw33_body) (N := 16) (own := []) (rng := []) (c := (codeOf Try.f22)) (h := h_coreseclaw33_body) (qs := [.cell 2 25]) kMix Try.func22 (by kernel_rfl) (by kernel_rfl) (by kernel_rfl) (by kernel_rfl) a r (Eq.trans (by kernel_rfl) h)⟩
def t_fragment_numbered : Tab Try.prog := ⟨tes, ses, fes, bes, [], [], fds, []⟩
def h_fragment_numbered : Hint := (.s .n (.j ⟨[.d 2 .bool], []⟩ false .n .n))

def con_fragment_numbered : Con Try.prog := ⟨52, [.d (.int .i64)], [.d .bool], ⟨Try.f52, Try.func52, by kernel_rfl, by kernel_rfl⟩, m_fragment_numbered, fun a r h => mkM_ok (T := t_fragment_numbered) (N := 9) (own := []) (rng := []) (c := (codeOf Try.f52)) (h := h_fragment_numbered) (qs := [.tmp 2]) kMix Try.func52 (by kernel_rfl) (by kernel_rfl) (by kernel_rfl) (by kernel_rfl) a r (Eq.trans (by kernel_rfl) h)⟩
def t_fragment_copied : Tab Try.prog := ⟨tes, ses, fes, bes, [], [], fds, []⟩
def h_fragment_copied : Hint := (.s .n (.s .n .n))

def con_fragment_copied : Con Try.prog := ⟨48, [.d (.sl (.int .u8))], [.d (.sl (.int .u8))], ⟨Try.f48, Try.func48, by kernel_rfl, by kernel_rfl⟩, m_fragment_copied, fun a r h => mkM_ok (T := t_fragment_copied) (N := 5) (own := []) (rng := []) (c := (codeOf Try.f48)) (h := h_fragment_copied) (qs := [.tmp 2]) kMix Try.func48 (by kernel_rfl) (by kernel_rfl) (by kernel_rfl) (by kernel_rfl) a r (Eq.trans (by kernel_rfl) h)⟩
def t_fragment_message : Tab Try.prog := ⟨tes, ses, fes, bes, [con_fragment_copied], [15, 33], fds, []⟩
def h_fragment_message : Hint := (.s .n (.s .n (.s .n (.s (.s .n (.b (.l (.a 19 18) ⟨[.h 3 25 P_api_Message 4 63 P_api_Option], [2, 3, 17, 18]⟩ (.s .n (.s (.c .n .n) (.s (.b (.s .n .n)) .n)))))) (.s .n .n)))))

def con_fragment_message : Con Try.prog := ⟨58, [.d P_api_Message], [.d P_api_Message], ⟨Try.f58, Try.func58, by kernel_rfl, by kernel_rfl⟩, m_fragment_message, fun a r h => mkM_ok (T := t_fragment_message) (N := 36) (own := [32]) (rng := [18]) (c := (codeOf Try.f58)) (h := h_fragment_message) (qs := [.cell 2 25]) kMix Try.func58 (by kernel_rfl) (by kernel_rfl) (by kernel_rfl) (by kernel_rfl) a r (Eq.trans (by kernel_rfl) h)⟩
def t_fragment_without : Tab Try.prog := ⟨tes, ses, fes, bes, [con_fragment_message], [10, 28], fds, []⟩
def h_fragment_without : Hint := (.s .n (.s .n (.s .n (.s (.s .n (.b (.l (.a 15 14) ⟨[.h 5 25 P_api_Message 4 63 P_api_Option], [1, 4, 5, 13, 14]⟩ (.s .n (.s (.c .n .n) (.j ⟨[.h 5 25 P_api_Message 4 63 P_api_Option], [1, 4, 5, 13, 14, 15]⟩ false (.b (.s .n (.s .n (.c .n .n)))) .n)))))) (.s .n .n)))))

def con_fragment_without : Con Try.prog := ⟨53, [.d P_api_Message, .d (.int .i64)], [.d P_api_Message], ⟨Try.f53, Try.func53, by kernel_rfl, by kernel_rfl⟩, m_fragment_without, fun a r h => mkM_ok (T := t_fragment_without) (N := 31) (own := [27]) (rng := [14]) (c := (codeOf Try.f53)) (h := h_fragment_without) (qs := [.cell 4 25]) kMix Try.func53 (by kernel_rfl) (by kernel_rfl) (by kernel_rfl) (by kernel_rfl) a r (Eq.trans (by kernel_rfl) h)⟩
def t_coap_sound : Tab Try.prog := ⟨tes, ses, fes, bes, [], [], fds, []⟩
def h_coap_sound : Hint := (.s .n (.s .n (.s (.j ⟨[.d 43 .bool], [1]⟩ false .n (.c (.s .n .n) .n)) (.s (.j ⟨[.d 63 .bool], [1]⟩ false .n (.c (.s .n .n) .n)) (.s .n (.s (.s .n (.b (.l (.a 67 66) ⟨[.d 4 (.int .i64)], [1, 65, 66]⟩ (.s .n (.s (.c .n .n) (.s (.b (.s .n (.s (.j ⟨[.d 85 .bool], [1, 6, 65, 66, 67]⟩ false .n (.c (.s .n .n) .n)) .n))) .n)))))) (.s (.j ⟨[.d 105 .bool], [1]⟩ false .n (.c (.s .n .n) .n)) (.j ⟨[.d 2 .bool], []⟩ false .n .n))))))))

def con_coap_sound : Con Try.prog := ⟨73, [.d P_api_Message], [.d .bool], ⟨Try.f73, Try.func73, by kernel_rfl, by kernel_rfl⟩, m_coap_sound, fun a r h => mkM_ok (T := t_coap_sound) (N := 120) (own := []) (rng := [66]) (c := (codeOf Try.f73)) (h := h_coap_sound) (qs := [.tmp 2]) kMix Try.func73 (by kernel_rfl) (by kernel_rfl) (by kernel_rfl) (by kernel_rfl) a r (Eq.trans (by kernel_rfl) h)⟩
def t_coap_parts : Tab Try.prog := ⟨tes, ses, fes, bes, [], [], fds, []⟩
def h_coap_parts : Hint := (.s .n (.s (.b (.s .n (.c (.s .n .n) (.s .n (.c (.s .n .n) .n))))) (.s .n .n)))

def con_coap_parts : Con Try.prog := ⟨87, [.d (.int .i64)], [.d (.int .u8), .d (.sl (.int .u8))], ⟨Try.f87, Try.func87, by kernel_rfl, by kernel_rfl⟩, m_coap_parts, fun a r h => mkM_ok (T := t_coap_parts) (N := 24) (own := []) (rng := []) (c := (codeOf Try.f87)) (h := h_coap_parts) (qs := [.tmp 2, .tmp 3]) kMix Try.func87 (by kernel_rfl) (by kernel_rfl) (by kernel_rfl) (by kernel_rfl) a r (Eq.trans (by kernel_rfl) h)⟩
def t_coap_encode : Tab Try.prog := ⟨tes, ses, fes, bes, [con_coap_parts], [], fds, []⟩
def h_coap_encode : Hint := (.s .n (.s .n (.s .n (.s .n (.s (.s .n (.b (.l (.a 38 37) ⟨[.o 3 5 (.int .u8), .d 4 (.int .i64)], [1, 36, 37]⟩ (.s .n (.s (.c .n .n) (.s (.b (.s .n (.s .n (.s .n (.s .n .n))))) .n)))))) (.j ⟨[.o 3 5 (.int .u8)], []⟩ false (.s .n (.c .n .n)) (.s .n .n)))))))

def con_coap_encode : Con Try.prog := ⟨74, [.d P_api_Message], [.d (.sl (.int .u8))], ⟨Try.f74, Try.func74, by kernel_rfl, by kernel_rfl⟩, m_coap_encode, fun a r h => mkM_ok (T := t_coap_encode) (N := 85) (own := [30, 34, 63, 65, 67, 70, 80, 83]) (rng := [37]) (c := (codeOf Try.f74)) (h := h_coap_encode) (qs := [.tmp 2]) kMix Try.func74 (by kernel_rfl) (by kernel_rfl) (by kernel_rfl) (by kernel_rfl) a r (Eq.trans (by kernel_rfl) h)⟩
def t_coap_Encode : Tab Try.prog := ⟨tes, ses, fes, bes, [con_coap_sound, con_coap_encode], [], fds, []⟩
def h_coap_Encode : Hint := (.s .n (.s (.s .n (.c (.s .n .n) .n)) (.s .n (.s (.s .n (.c (.s .n .n) .n)) (.s .n .n)))))

def con_coap_Encode : Con Try.prog := ⟨54, [.d P_api_Message], [.d (.sl (.int .u8)), .d (.int .i64)], ⟨Try.f54, Try.func54, by kernel_rfl, by kernel_rfl⟩, m_coap_Encode, fun a r h => mkM_ok (T := t_coap_Encode) (N := 14) (own := []) (rng := []) (c := (codeOf Try.f54)) (h := h_coap_Encode) (qs := [.tmp 2, .tmp 3]) kMix Try.func54 (by kernel_rfl) (by kernel_rfl) (by kernel_rfl) (by kernel_rfl) a r (Eq.trans (by kernel_rfl) h)⟩
def t_fragment_Key : Tab Try.prog := ⟨tes, ses, fes, bes, [con_fragment_numbered, con_fragment_without, con_coap_Encode], [], fds, []⟩
def h_fragment_Key : Hint := (.s .n (.s (.s .n (.c (.s .n .n) .n)) (.s .n (.s .n (.s .n .n)))))

def con_fragment_Key : Con Try.prog := ⟨24, [.d P_api_Message, .d (.int .i64)], [.d (.sl (.int .u8)), .d (.int .i64)], ⟨Try.f24, Try.func24, by kernel_rfl, by kernel_rfl⟩, m_fragment_Key, fun a r h => mkM_ok (T := t_fragment_Key) (N := 21) (own := []) (rng := []) (c := (codeOf Try.f24)) (h := h_fragment_Key) (qs := [.tmp 4, .tmp 5]) kMix Try.func24 (by kernel_rfl) (by kernel_rfl) (by kernel_rfl) (by kernel_rfl) a r (Eq.trans (by kernel_rfl) h)⟩
theorem kUnd_22 : Try.prog.underlying 22 = some (.slice 5) := by kernel_rfl
theorem kSl_22 : TySl Try.prog 22 5 1 1 (.int .u8 0) := ⟨by kernel_rfl, info_of (by kernel_rfl), by kernel_rfl, by decide⟩
theorem kZero_5 : TyZero Try.prog 5 (.int .u8 0) := fun w => by kernel_rfl
theorem c_bytes_Clone {lab : Lab} {w : World} {a0 : List UInt8} {r : List UInt8} (hm : m_bytes_Clone a0 = some r) (t : Top lab w) {oa : Option Addr} {c : Nat} (s : SL Rep.u8 lab w oa c a0) :
    Calls Try.prog 72 [.slice oa a0.length c].toArray w (fun e w' => ∃ (oa' : Option Addr) (c' : Nat), e = .returned (.slice oa' r.length c') ∧ Ste lab 0 w lab w' ∧ SL Rep.u8 lab w' oa' c' r ∧ True) := by
  have hm' : bnd (app ([] : List UInt8) a0) some = some r := by unfold m_bytes_Clone at hm; rw [hm]; rfl
  refine enter Try.func72 rfl 8 rfl rfl ?_
  refine CW.sub (G := [(0, .slice oa a0.length c)]) ⟨rfl, trivial⟩ ?_
  refine CW.seq ?_
  refine CW.region ?_
  refine LW.assign wn rfl rfl ?_
  refine LW.nil ?_
  refine EW.seq_n ?_
  refine CW.seq ?_
  refine CW.seq ?_
  refine CW.region ?_
  refine LW.move wn rfl rfl ?_
  refine LW.eqnil kUnd_22 wn rfl rfl rfl ?_
  refine LW.nil ?_
  refine EW.seq_n ?_
  refine CW.cond (b := oa.isNone) rfl (fun hb => ?_) (fun hb => ?_)
  · cases oa with
    | some _ => cases hb
    | none =>
      have h0 : a0 = [] := (SL.flat' s).1 rfl
      subst h0
      have hr : r = [] := by simp [app, bnd, LIM] at hm'; exact hm'
      subst hr
      refine CW.seq ?_
      refine CW.region ?_
      refine LW.assign wn rfl rfl ?_
      refine LW.nil ?_
      refine EW.seq_n ?_
      refine CW.ret ?_
      refine EW.seq_r ?_
      exact EW.ret1 rfl rfl ⟨none, 0, rfl, ⟨rfl, rfl, rfl, Nat.le_refl _, fun _ _ _ => rfl, fun _ _ => rfl, t⟩, SL.nil, trivial⟩
  · refine CW.skip ?_
    refine EW.seq_n ?_
    refine CW.seq ?_
    refine CW.region ?_
    have cx := Cx.start t
    replace s := s.keep Keeps.lin
    refine LW.buildOwn (k := 2) (ρ := Rep.u8) (vs := []) (css := []) (xs := []) rfl kSl_22 kZero_5 (by kernel_rfl) rfl rfl trivial cx.top wn rfl ?_
    intro oa1 c1 lab1 w1 e1 o1
    replace cx := cx.step e1 rfl; replace s := s.step e1
    refine LW.move wn rfl rfl ?_
    refine LW.append (ρ := Rep.u8) (xs := []) (ys := a0) hm' o1 (SL.flat' s) cx.top rfl kSl_22 rfl wn rfl rfl rfl ?_
    intro zs oa2 c2 lab2 w2 hz e2 o2
    cases hz
    replace cx := cx.step e2 rfl
    refine LW.assign wn rfl rfl ?_
    refine LW.nil ?_
    refine EW.seq_n ?_
    refine CW.ret ?_
    exact EW.ret1 rfl rfl ⟨_, _, rfl, cx.ste t, o2.sl (cx.keeps t) (cx.own0 t rfl), trivial⟩
theorem co_bytes_Clone {lab : Lab} {w : World} {a0 : List UInt8} {r : List UInt8} {k : Nat} (hm : m_bytes_Clone a0 = some r) (t : Top lab w) {oa : Option Addr} {c : Nat} (s : SL Rep.u8 lab w oa c a0) :
    Calls Try.prog 72 [.slice oa a0.length c].toArray w (fun e w' => ∃ (lab' : Lab) (oa' : Option Addr) (c' : Nat), e = .returned (.slice oa' r.length c') ∧ Ste lab 0 w lab' w' ∧ Own Rep.u8 lab' w' k 5 oa' c' r ∧ True) := by
  have hm' : bnd (app ([] : List UInt8) a0) some = some r := by unfold m_bytes_Clone at hm; rw [hm]; rfl
  refine enter Try.func72 rfl 8 rfl rfl ?_
  refine CW.sub (G := [(0, .slice oa a0.length c)]) ⟨rfl, trivial⟩ ?_
  refine CW.seq ?_
  refine CW.region ?_
  refine LW.assign wn rfl rfl ?_
  refine LW.nil ?_
  refine EW.seq_n ?_
  refine CW.seq ?_
  refine CW.seq ?_
  refine CW.region ?_
  refine LW.move wn rfl rfl ?_
  refine LW.eqnil kUnd_22 wn rfl rfl rfl ?_
  refine LW.nil ?_
  refine EW.seq_n ?_
  refine CW.cond (b := oa.isNone) rfl (fun hb => ?_) (fun hb => ?_)
  · cases oa with
    | some _ => cases hb
    | none =>
      have h0 : a0 = [] := (SL.flat' s).1 rfl
      subst h0
      have hr : r = [] := by simp [app, bnd, LIM] at hm'; exact hm'
      subst hr
      refine CW.seq ?_
      refine CW.region ?_
      refine LW.assign wn rfl rfl ?_
      refine LW.nil ?_
      refine EW.seq_n ?_
      refine CW.ret ?_
      refine EW.seq_r ?_
      exact EW.ret1 rfl rfl ⟨lab, none, 0, rfl, ⟨rfl, rfl, rfl, Nat.le_refl _, fun _ _ _ => rfl, fun _ _ => rfl, t⟩, Own.nil, trivial⟩
  · refine CW.skip ?_
    refine EW.seq_n ?_
    refine CW.seq ?_
    refine CW.region ?_
    have cx := Cx.start t
    replace s := s.keep Keeps.lin
    refine LW.buildOwn (k := 2) (ρ := Rep.u8) (vs := []) (css := []) (xs := []) rfl kSl_22 kZero_5 (by kernel_rfl) rfl rfl trivial cx.top wn rfl ?_
    intro oa1 c1 lab1 w1 e1 o1
    replace cx := cx.step e1 rfl; replace s := s.step e1
    refine LW.move wn rfl rfl ?_
    refine LW.append (ρ := Rep.u8) (xs := []) (ys := a0) hm' o1 (SL.flat' s) cx.top rfl kSl_22 rfl wn rfl rfl rfl ?_
    intro zs oa2 c2 lab2 w2 hz e2 o2
    cases hz
    replace cx := cx.step e2 rfl
    refine LW.assign wn rfl rfl ?_
    refine LW.nil ?_
    refine EW.seq_n ?_
    refine CW.ret ?_
    obtain ⟨lab_, ste_, own_⟩ := o2.out cx t rfl k
    exact EW.ret1 rfl rfl ⟨_, _, _, rfl, ste_, own_, trivial⟩

def con_bytes_Clone : Con Try.prog := ⟨72, [.d (.sl (.int .u8))], [.d (.sl (.int .u8))], ⟨Try.f72, Try.func72, by kernel_rfl, by kernel_rfl⟩, m_bytes_Clone, by
  intro a r h k kp gp lab w vs t _ hk hargs
  match vs, hargs with
  | [v], hargs =>
    obtain ⟨hd, _⟩ := hargs
    obtain ⟨oa, c, rfl, s⟩ := Dat.sl hd
    refine (c_bytes_Clone (a0 := a.1) (r := r) h t s).mono ?_
    rintro e w' ⟨oa', c', rfl, hs, s', _⟩
    exact ⟨lab, [_], rfl, hs.stp (.inr rfl), Dat.ofSl (t := .int .u8) s', trivial⟩⟩
def con_bytes_Clone_o : Con Try.prog := ⟨72, [.d (.sl (.int .u8))], [.o 5 (.int .u8)], ⟨Try.f72, Try.func72, by kernel_rfl, by kernel_rfl⟩, m_bytes_Clone, by
  intro a r h k kp gp lab w vs t _ hk hargs
  match vs, hargs with
  | [v], hargs =>
    obtain ⟨hd, _⟩ := hargs
    obtain ⟨oa, c, rfl, s⟩ := Dat.sl hd
    refine (co_bytes_Clone (a0 := a.1) (r := r) (k := k) h t s).mono ?_
    rintro e w' ⟨lab', oa', c', rfl, hs, o, _⟩
    exact ⟨lab', [_], rfl, hs.stp (.inr rfl), ⟨oa', c', rfl, o⟩, trivial⟩⟩

def t_option_All : Tab Try.prog := ⟨tes, ses, fes, bes, [con_bytes_Clone], [], fds, []⟩
def h_option_All : Hint := (.s .n (.s .n (.s (.s .n (.b (.l (.a 11 10) ⟨[.o 5 22 (.sl (.int .u8))], [1, 9, 10]⟩ (.s .n (.s (.c .n .n) (.j ⟨[.o 5 22 (.sl (.int .u8))], [1, 9, 10, 11]⟩ false (.b (.s .n (.s .n (.c .n .n)))) .n)))))) (.s .n .n))))

def con_option_All : Con Try.prog := ⟨55, [.d P_api_Message, .d (.int .i64)], [.d (.sl (.sl (.int .u8)))], ⟨Try.f55, Try.func55, by kernel_rfl, by kernel_rfl⟩, m_option_All, fun a r h => mkM_ok (T := t_option_All) (N := 27) (own := [24]) (rng := [10]) (c := (codeOf Try.f55)) (h := h_option_All) (qs := [.tmp 4]) kMix Try.func55 (by kernel_rfl) (by kernel_rfl) (by kernel_rfl) (by kernel_rfl) a r (Eq.trans (by kernel_rfl) h)⟩
def t_block_sound : Tab Try.prog := ⟨tes, ses, fes, bes, [], [], fds, []⟩
def h_block_sound : Hint := (.s .n (.j ⟨[.d 2 .bool], []⟩ false .n .n))

def con_block_sound : Con Try.prog := ⟨75, [.d P_api_Block], [.d .bool], ⟨Try.f75, Try.func75, by kernel_rfl, by kernel_rfl⟩, m_block_sound, fun a r h => mkM_ok (T := t_block_sound) (N := 21) (own := []) (rng := []) (c := (codeOf Try.f75)) (h := h_block_sound) (qs := [.tmp 2]) kMix Try.func75 (by kernel_rfl) (by kernel_rfl) (by kernel_rfl) (by kernel_rfl) a r (Eq.trans (by kernel_rfl) h)⟩
def t_block_length : Tab Try.prog := ⟨tes, ses, fes, bes, [], [], fds, []⟩
def h_block_length : Hint := (.s .n (.s .n .n))

def con_block_length : Con Try.prog := ⟨76, [.d (.int .i64)], [.d (.int .i64)], ⟨Try.f76, Try.func76, by kernel_rfl, by kernel_rfl⟩, m_block_length, fun a r h => mkM_ok (T := t_block_length) (N := 5) (own := []) (rng := []) (c := (codeOf Try.f76)) (h := h_block_length) (qs := [.tmp 2]) kMix Try.func76 (by kernel_rfl) (by kernel_rfl) (by kernel_rfl) (by kernel_rfl) a r (Eq.trans (by kernel_rfl) h)⟩
def t_block_Cut : Tab Try.prog := ⟨tes, ses, fes, bes, [con_block_sound, con_block_length, con_bytes_Clone], [], fds, []⟩
def h_block_Cut : Hint := (.s .n (.s (.s .n (.c (.s .n .n) .n)) (.s .n (.s (.j ⟨[.d 30 .bool], [0, 2, 9]⟩ false .n (.c (.s .n .n) .n)) (.s .n (.s .n .n))))))

def con_block_Cut : Con Try.prog := ⟨56, [.d (.sl (.int .u8)), .d (.int .i64), .d (.int .i64)], [.d (.sl (.int .u8)), .d .bool, .d (.int .i64)], ⟨Try.f56, Try.func56, by kernel_rfl, by kernel_rfl⟩, m_block_Cut, fun a r h => mkM_ok (T := t_block_Cut) (N := 47) (own := []) (rng := []) (c := (codeOf Try.f56)) (h := h_block_Cut) (qs := [.tmp 6, .tmp 7, .tmp 8]) kMix Try.func56 (by kernel_rfl) (by kernel_rfl) (by kernel_rfl) (by kernel_rfl) a r (Eq.trans (by kernel_rfl) h)⟩
def t_option_FromUint : Tab Try.prog := ⟨tes, ses, fes, bes, [], [], fds, []⟩
def h_option_FromUint : Hint := (.s .n (.s (.j ⟨[.d 10 .bool], [0]⟩ false .n (.c (.s .n .n) .n)) (.s .n (.s (.s .n (.b (.l .g ⟨[.o 3 5 (.int .u8), .d 4 (.int .i64)], [0]⟩ (.s (.s .n (.c .n .n)) (.j ⟨[.o 3 5 (.int .u8)], [0, 4]⟩ false (.b (.s .n (.c .n .n))) .n))))) (.s .n .n)))))

def con_option_FromUint : Con Try.prog := ⟨77, [.d (.int .i64)], [.d (.sl (.int .u8))], ⟨Try.f77, Try.func77, by kernel_rfl, by kernel_rfl⟩, m_option_FromUint, fun a r h => mkM_ok (T := t_option_FromUint) (N := 27) (own := [25]) (rng := []) (c := (codeOf Try.f77)) (h := h_option_FromUint) (qs := [.tmp 2]) kMix Try.func77 (by kernel_rfl) (by kernel_rfl) (by kernel_rfl) (by kernel_rfl) a r (Eq.trans (by kernel_rfl) h)⟩
def t_block_Value : Tab Try.prog := ⟨tes, ses, fes, bes, [con_block_sound, con_option_FromUint], [], fds, []⟩
def h_block_Value : Hint := (.s .n (.s (.s .n (.c (.s .n .n) .n)) (.s .n (.j ⟨[.d 4 (.int .i64)], []⟩ false (.s .n (.c .n .n)) (.s .n .n)))))

def con_block_Value : Con Try.prog := ⟨57, [.d P_api_Block], [.d (.sl (.int .u8)), .d (.int .i64)], ⟨Try.f57, Try.func57, by kernel_rfl, by kernel_rfl⟩, m_block_Value, fun a r h => mkM_ok (T := t_block_Value) (N := 20) (own := []) (rng := []) (c := (codeOf Try.f57)) (h := h_block_Value) (qs := [.tmp 2, .tmp 3]) kMix Try.func57 (by kernel_rfl) (by kernel_rfl) (by kernel_rfl) (by kernel_rfl) a r (Eq.trans (by kernel_rfl) h)⟩
def t_option_owned : Tab Try.prog := ⟨tes, ses, fes, bes, [con_bytes_Clone], [15, 32], fds, []⟩
def h_option_owned : Hint := (.s .n (.s .n (.s .n (.s (.s .n (.b (.l (.a 18 17) ⟨[.h 2 25 P_api_Message 4 63 P_api_Option], [2, 4, 16, 17]⟩ (.s .n (.s (.c .n .n) (.s (.b (.s .n .n)) .n)))))) (.s .n .n)))))

def con_option_owned : Con Try.prog := ⟨78, [.d P_api_Message, .d (.sl P_api_Option)], [.d P_api_Message], ⟨Try.f78, Try.func78, by kernel_rfl, by kernel_rfl⟩, m_option_owned, fun a r h => mkM_ok (T := t_option_owned) (N := 35) (own := [31]) (rng := [17]) (c := (codeOf Try.f78)) (h := h_option_owned) (qs := [.cell 4 25]) kMix Try.func78 (by kernel_rfl) (by kernel_rfl) (by kernel_rfl) (by kernel_rfl) a r (Eq.trans (by kernel_rfl) h)⟩
def t_option_Set : Tab Try.prog := ⟨tes, ses, fes, bes, [con_option_owned], [], fds, []⟩
def h_option_Set : Hint := (.s .n (.s .n (.s (.s .n (.b (.l (.a 16 15) ⟨[.o 7 63 P_api_Option, .o 8 63 P_api_Option], [1, 2, 3, 6, 14, 15]⟩ (.s .n (.s (.c .n .n) (.j ⟨[.o 7 63 P_api_Option, .o 8 63 P_api_Option], [1, 2, 3, 6, 14, 15, 16]⟩ false (.b (.s .n (.b (.s .n (.c .n (.s .n (.c .n .n))))))) .n)))))) (.s (.s .n (.b (.l (.a 41 40) ⟨[.o 7 63 P_api_Option], [1, 3, 6, 8, 39, 40]⟩ (.s .n (.s (.c .n .n) (.s (.b (.s .n .n)) .n)))))) (.s .n .n)))))

def con_option_Set : Con Try.prog := ⟨59, [.d P_api_Message, .d (.int .i64), .d (.sl (.sl (.int .u8)))], [.d P_api_Message], ⟨Try.f59, Try.func59, by kernel_rfl, by kernel_rfl⟩, m_option_Set, fun a r h => mkM_ok (T := t_option_Set) (N := 57) (own := [28, 37, 50]) (rng := [15, 40]) (c := (codeOf Try.f59)) (h := h_option_Set) (qs := [.cell 6 25]) kMix Try.func59 (by kernel_rfl) (by kernel_rfl) (by kernel_rfl) (by kernel_rfl) a r (Eq.trans (by kernel_rfl) h)⟩
def t_fragment_Cut : Tab Try.prog := ⟨tes, ses, fes, bes, [con_fragment_numbered, con_option_All, con_block_Cut, con_block_Value, con_option_Set, con_fragment_message, con_fragment_copied], [], fds, []⟩
def h_fragment_Cut : Hint := (.s .n (.s (.s .n (.c (.s .n .n) .n)) (.s (.s .n (.c (.s .n .n) .n)) (.s .n (.s (.s .n (.c (.s .n .n) .n)) (.s .n (.s (.s .n (.c (.s .n .n) .n)) (.s .n (.s .n (.s .n .n))))))))))

def con_fragment_Cut : Con Try.prog := ⟨25, [.d P_api_Message, .d (.int .i64), .d (.int .i64), .d (.int .i64)], [.d P_api_Message, .d (.int .i64)], ⟨Try.f25, Try.func25, by kernel_rfl, by kernel_rfl⟩, m_fragment_Cut, fun a r h => mkM_ok (T := t_fragment_Cut) (N := 60) (own := []) (rng := []) (c := (codeOf Try.f25)) (h := h_fragment_Cut) (qs := [.cell 8 25, .tmp 9]) kMix Try.func25 (by kernel_rfl) (by kernel_rfl) (by kernel_rfl) (by kernel_rfl) a r (Eq.trans (by kernel_rfl) h)⟩
def t_option_Uint : Tab Try.prog := ⟨tes, ses, fes, bes, [], [], fds, []⟩
def h_option_Uint : Hint := (.s .n (.s .n (.s (.s .n (.b (.l (.a 9 8) ⟨[.d 4 (.int .i64)], [7, 8]⟩ (.s .n (.s (.c .n .n) (.s (.b (.s .n (.s .n (.s .n (.c (.s .n .n) .n))))) .n)))))) (.s .n .n))))

def con_option_Uint : Con Try.prog := ⟨85, [.d (.sl (.int .u8))], [.d (.int .i64), .d (.int .i64)], ⟨Try.f85, Try.func85, by kernel_rfl, by kernel_rfl⟩, m_option_Uint, fun a r h => mkM_ok (T := t_option_Uint) (N := 22) (own := []) (rng := [8]) (c := (codeOf Try.f85)) (h := h_option_Uint) (qs := [.tmp 2, .tmp 3]) kMix Try.func85 (by kernel_rfl) (by kernel_rfl) (by kernel_rfl) (by kernel_rfl) a r (Eq.trans (by kernel_rfl) h)⟩
def t_block_Parse : Tab Try.prog := ⟨tes, ses, fes, bes, [con_option_Uint], [], fds, []⟩
def h_block_Parse : Hint := (.s .n (.s .n (.s (.j ⟨[.d 22 .bool], [2, 4]⟩ false .n (.c (.s .n .n) .n)) (.s .n .n))))

def con_block_Parse : Con Try.prog := ⟨70, [.d (.sl (.int .u8))], [.d P_api_Block, .d (.int .i64)], ⟨Try.f70, Try.func70, by kernel_rfl, by kernel_rfl⟩, m_block_Parse, fun a r h => mkM_ok (T := t_block_Parse) (N := 32) (own := []) (rng := []) (c := (codeOf Try.f70)) (h := h_block_Parse) (qs := [.cell 2 72, .tmp 3]) kMix Try.func70 (by kernel_rfl) (by kernel_rfl) (by kernel_rfl) (by kernel_rfl) a r (Eq.trans (by kernel_rfl) h)⟩
def t_fragment_sound : Tab Try.prog := ⟨tes, ses, fes, bes, [con_option_All, con_block_Parse], [], fds, []⟩
def h_fragment_sound : Hint := (.s .n (.s .n (.s (.s .n (.c (.s .n .n) .n)) (.s .n (.s .n .n)))))

def con_fragment_sound : Con Try.prog := ⟨43, [.d P_api_Message, .d (.int .i64)], [.d P_api_Block, .d .bool, .d .bool], ⟨Try.f43, Try.func43, by kernel_rfl, by kernel_rfl⟩, m_fragment_sound, fun a r h => mkM_ok (T := t_fragment_sound) (N := 30) (own := []) (rng := []) (c := (codeOf Try.f43)) (h := h_fragment_sound) (qs := [.cell 4 72, .tmp 5, .tmp 6]) kMix Try.func43 (by kernel_rfl) (by kernel_rfl) (by kernel_rfl) (by kernel_rfl) a r (Eq.trans (by kernel_rfl) h)⟩
def t_fragment_partials : Tab Try.prog := ⟨tes, ses, fes, bes, [con_fragment_copied], [], fds, []⟩
def h_fragment_partials : Hint := (.s .n (.s .n (.s (.s .n (.b (.l (.a 8 7) ⟨[.o 3 54 P_api_Partial], [6, 7]⟩ (.s .n (.s (.c .n .n) (.s (.b (.s .n (.s .n .n))) .n)))))) (.s .n .n))))

def con_fragment_partials : Con Try.prog := ⟨63, [.d (.sl P_api_Partial)], [.d (.sl P_api_Partial)], ⟨Try.f63, Try.func63, by kernel_rfl, by kernel_rfl⟩, m_fragment_partials, fun a r h => mkM_ok (T := t_fragment_partials) (N := 26) (own := [23]) (rng := [7]) (c := (codeOf Try.f63)) (h := h_fragment_partials) (qs := [.tmp 2]) kMix Try.func63 (by kernel_rfl) (by kernel_rfl) (by kernel_rfl) (by kernel_rfl) a r (Eq.trans (by kernel_rfl) h)⟩
def t_fragment_position : Tab Try.prog := ⟨tes, ses, fes, bes, [], [], fds, []⟩
def h_fragment_position : Hint := (.s .n (.s .n .n))

def con_fragment_position : Con Try.prog := ⟨44, [.d P_api_Block], [.d (.int .i64)], ⟨Try.f44, Try.func44, by kernel_rfl, by kernel_rfl⟩, m_fragment_position, fun a r h => mkM_ok (T := t_fragment_position) (N := 10) (own := []) (rng := []) (c := (codeOf Try.f44)) (h := h_fragment_position) (qs := [.tmp 2]) kMix Try.func44 (by kernel_rfl) (by kernel_rfl) (by kernel_rfl) (by kernel_rfl) a r (Eq.trans (by kernel_rfl) h)⟩
def t_bytes_Equal : Tab Try.prog := ⟨tes, ses, fes, bes, [], [], fds, []⟩
def h_bytes_Equal : Hint := (.s .n (.s .n .n))

def con_bytes_Equal : Con Try.prog := ⟨88, [.d (.sl (.int .u8)), .d (.sl (.int .u8))], [.d .bool], ⟨Try.f88, Try.func88, by kernel_rfl, by kernel_rfl⟩, m_bytes_Equal, fun a r h => mkM_ok (T := t_bytes_Equal) (N := 10) (own := []) (rng := []) (c := (codeOf Try.f88)) (h := h_bytes_Equal) (qs := [.tmp 4]) kMix Try.func88 (by kernel_rfl) (by kernel_rfl) (by kernel_rfl) (by kernel_rfl) a r (Eq.trans (by kernel_rfl) h)⟩
def t_block_find : Tab Try.prog := ⟨tes, ses, fes, bes, [con_bytes_Equal], [], fds, []⟩
def h_block_find : Hint := (.s .n (.s (.s .n (.b (.l (.a 11 10) ⟨[], [1, 2, 9, 10]⟩ (.s .n (.s (.c .n .n) (.s (.b (.s .n (.j ⟨[.d 25 .bool], [1, 2, 7, 9, 10, 11]⟩ false .n (.c (.s .n .n) .n)))) .n)))))) (.s .n .n)))

def con_block_find : Con Try.prog := ⟨82, [.d (.sl P_api_Partial), .d (.int .i64), .d (.sl (.int .u8))], [.d (.int .i64)], ⟨Try.f82, Try.func82, by kernel_rfl, by kernel_rfl⟩, m_block_find, fun a r h => mkM_ok (T := t_block_find) (N := 28) (own := []) (rng := [10]) (c := (codeOf Try.f82)) (h := h_block_find) (qs := [.tmp 6]) kMix Try.func82 (by kernel_rfl) (by kernel_rfl) (by kernel_rfl) (by kernel_rfl) a r (Eq.trans (by kernel_rfl) h)⟩
def t_block_Valid : Tab Try.prog := ⟨tes, ses, fes, bes, [con_block_find], [], fds, []⟩
def h_block_Valid : Hint := (.s .n (.s (.s .n (.c (.s .n .n) .n)) (.s (.s .n (.b (.l (.a 10 9) ⟨[], [0, 8, 9]⟩ (.s .n (.s (.c .n .n) (.s (.b (.s .n (.j ⟨[.d 50 .bool], [0, 8, 9, 10]⟩ false .n (.c (.s .n .n) .n)))) .n)))))) (.s .n .n))))

def con_block_Valid : Con Try.prog := ⟨80, [.d (.sl P_api_Partial)], [.d .bool], ⟨Try.f80, Try.func80, by kernel_rfl, by kernel_rfl⟩, m_block_Valid, fun a r h => mkM_ok (T := t_block_Valid) (N := 52) (own := []) (rng := [9]) (c := (codeOf Try.f80)) (h := h_block_Valid) (qs := [.tmp 2]) kMix Try.func80 (by kernel_rfl) (by kernel_rfl) (by kernel_rfl) (by kernel_rfl) a r (Eq.trans (by kernel_rfl) h)⟩
def t_block_kept : Tab Try.prog := ⟨tes, ses, fes, bes, [con_bytes_Equal, con_bytes_Clone], [], fds, []⟩
def h_block_kept : Hint := (.s .n (.s .n (.s (.s .n (.b (.l (.a 16 15) ⟨[.o 11 54 P_api_Partial], [1, 2, 3, 4, 14, 15]⟩ (.s .n (.s (.c .n .n) (.j ⟨[.o 11 54 P_api_Partial], [1, 2, 3, 4, 14, 15, 16]⟩ false (.b (.s .n (.s (.j ⟨[.d 38 .bool], [1, 2, 3, 4, 11, 13, 14, 15, 16]⟩ false .n (.c .n .n)) (.s .n .n)))) .n)))))) (.s .n .n))))

def con_block_kept : Con Try.prog := ⟨81, [.d (.sl P_api_Partial), .d (.int .i64), .d (.sl (.int .u8)), .d .bool, .d (.int .i64)], [.d (.sl P_api_Partial)], ⟨Try.f81, Try.func81, by kernel_rfl, by kernel_rfl⟩, m_block_kept, fun a r h => mkM_ok (T := t_block_kept) (N := 53) (own := [50]) (rng := [15]) (c := (codeOf Try.f81)) (h := h_block_kept) (qs := [.tmp 10]) kMix Try.func81 (by kernel_rfl) (by kernel_rfl) (by kernel_rfl) (by kernel_rfl) a r (Eq.trans (by kernel_rfl) h)⟩
def t_block_kept_o : Tab Try.prog := ⟨tes, ses, fes, bes, [con_bytes_Equal, con_bytes_Clone], [], fds, []⟩
def h_block_kept_o : Hint := (.s .n (.s .n (.s (.s .n (.b (.l (.a 16 15) ⟨[.o 11 54 P_api_Partial], [1, 2, 3, 4, 14, 15]⟩ (.s .n (.s (.c .n .n) (.j ⟨[.o 11 54 P_api_Partial], [1, 2, 3, 4, 14, 15, 16]⟩ false (.b (.s .n (.s (.j ⟨[.d 38 .bool], [1, 2, 3, 4, 11, 13, 14, 15, 16]⟩ false .n (.c .n .n)) (.s .n .n)))) .n)))))) (.s .n .n))))

def con_block_kept_o : Con Try.prog := ⟨81, [.d (.sl P_api_Partial), .d (.int .i64), .d (.sl (.int .u8)), .d .bool, .d (.int .i64)], [.o 54 P_api_Partial], ⟨Try.f81, Try.func81, by kernel_rfl, by kernel_rfl⟩, m_block_kept_o, fun a r h => mkM_ok (T := t_block_kept_o) (N := 53) (own := [50]) (rng := [15]) (c := (codeOf Try.f81)) (h := h_block_kept_o) (qs := [.tmp 10]) kMix Try.func81 (by kernel_rfl) (by kernel_rfl) (by kernel_rfl) (by kernel_rfl) a r (Eq.trans (by kernel_rfl) h)⟩
def t_block_Put : Tab Try.prog := ⟨tes, ses, fes, bes, [con_block_Valid, con_block_sound, con_block_length, con_block_kept_o, con_block_find, con_bytes_Clone_o], [], fds, []⟩
def h_block_Put : Hint := (.s .n (.s (.j ⟨[.d 47 .bool], [0, 1, 2, 4, 5, 9]⟩ false .n (.c (.s .n .n) .n)) (.s .n (.s (.j ⟨[.d 79 .bool], [0, 1, 2, 4, 5, 9, 16]⟩ false .n (.c (.s .n .n) .n)) (.s .n (.s .n (.s .n (.j ⟨[.d 18 (.sl (.int .u8))], [0, 1, 2, 4, 5, 9, 17]⟩ true (.s .n (.c (.s (.j ⟨[.d 109 .bool], [0, 1, 2, 4, 5, 9, 17]⟩ false .n (.c (.s .n .n) .n)) .n) .n)) (.s (.s .n (.c (.s .n .n) .n)) (.s .n (.s (.b (.j ⟨[.d 125 .bool], [0, 1, 2, 5, 9, 17, 18]⟩ false .n (.c (.s .n .n) (.s .n (.c (.s .n .n) (.s .n (.c (.s .n (.s .n .n)) (.s .n (.c (.s .n .n) .n))))))))) (.s .n .n))))))))))))

def con_block_Put : Con Try.prog := ⟨64, [.d (.sl P_api_Partial), .d (.int .i64), .d (.sl (.int .u8)), .d P_api_Block, .d (.sl (.int .u8)), .d (.int .i64)], [.d (.sl P_api_Partial), .d (.sl (.int .u8)), .d .bool, .d (.int .i64)], ⟨Try.f64, Try.func64, by kernel_rfl, by kernel_rfl⟩, m_block_Put, fun a r h => mkM_ok (T := t_block_Put) (N := 177) (own := []) (rng := []) (c := (codeOf Try.f64)) (h := h_block_Put) (qs := [.tmp 12, .tmp 13, .tmp 14, .tmp 15]) kMix Try.func64 (by kernel_rfl) (by kernel_rfl) (by kernel_rfl) (by kernel_rfl) a r (Eq.trans (by kernel_rfl) h)⟩
def t_fragment_Put : Tab Try.prog := ⟨tes, ses, fes, bes, [con_fragment_numbered, con_fragment_sound, con_fragment_partials, con_fragment_message, con_fragment_position, con_fragment_Key, con_block_Put, con_fragment_without, con_fragment_copied], [], fds, []⟩
def h_fragment_Put : Hint := (.s .n (.s (.s .n (.c (.s .n .n) .n)) (.s .n (.s (.s .n (.c (.s .n .n) .n)) (.s (.s .n (.c (.s .n .n) .n)) (.s (.s .n (.c (.s .n .n) .n)) (.s .n (.s (.s .n (.c (.s .n .n) .n)) (.s .n (.s (.s .n (.c (.s .n .n) .n)) (.s (.s .n (.c (.s .n .n) .n)) (.s .n (.s .n (.s .n .n))))))))))))))

def con_fragment_Put : Con Try.prog := ⟨36, [.d (.sl P_api_Partial), .d (.int .i64), .d P_api_Message, .d (.int .i64), .d (.int .i64), .d (.int .i64)], [.d (.sl P_api_Partial), .d P_api_Message, .d .bool, .d (.int .i64)], ⟨Try.f36, Try.func36, by kernel_rfl, by kernel_rfl⟩, m_fragment_Put, fun a r h => mkM_ok (T := t_fragment_Put) (N := 93) (own := []) (rng := []) (c := (codeOf Try.f36)) (h := h_fragment_Put) (qs := [.tmp 12, .cell 13 25, .tmp 14, .tmp 15]) kMix Try.func36 (by kernel_rfl) (by kernel_rfl) (by kernel_rfl) (by kernel_rfl) a r (Eq.trans (by kernel_rfl) h)⟩
def t_fragment_putting_1 : Tab Try.prog := ⟨tes, ses, fes, bes, [con_fragment_Put], [], fds, []⟩
def h_fragment_putting_1 : Hint := (.s .n (.s .n .n))

def con_fragment_putting_1 : Con Try.prog := ⟨79, [.d (.sl P_api_Partial), .d (.int .i64), .d P_api_Message, .d (.int .i64), .d (.cp (.int .i64)), .d (.cp (.int .i64))], [.d (.sl P_api_Partial), .d P_api_Message, .d .bool, .d (.int .i64)], ⟨Try.f79, Try.func79, by kernel_rfl, by kernel_rfl⟩, m_fragment_putting_1, fun a r h => mkM_ok (T := t_fragment_putting_1) (N := 25) (own := []) (rng := []) (c := (codeOf Try.f79)) (h := h_fragment_putting_1) (qs := [.tmp 10, .cell 11 25, .tmp 12, .tmp 13]) kMix Try.func79 (by kernel_rfl) (by kernel_rfl) (by kernel_rfl) (by kernel_rfl) a r (Eq.trans (by kernel_rfl) h)⟩
def t_fragment_putting : Tab Try.prog := ⟨tes, ses, fes, bes, [], [], fds, []⟩
def h_fragment_putting : Hint := (.s .n (.s .n .n))

def con_fragment_putting : Con Try.prog := ⟨60, [.d (.int .i64), .d (.int .i64)], [.d (.clo 79 (.pr (.cp (.int .i64)) (.pr (.cp (.int .i64)) .un)))], ⟨Try.f60, Try.func60, by kernel_rfl, by kernel_rfl⟩, m_fragment_putting, fun a r h => mkM_ok (T := t_fragment_putting) (N := 6) (own := []) (rng := []) (c := (codeOf Try.f60)) (h := h_fragment_putting) (qs := [.tmp 4]) kMix Try.func60 (by kernel_rfl) (by kernel_rfl) (by kernel_rfl) (by kernel_rfl) a r (Eq.trans (by kernel_rfl) h)⟩
def t_fragment_Inner : Tab Try.prog := ⟨tes, ses, fes, bes, [con_fragment_putting, con_fragment_putting_1], [], fds, []⟩
def h_fragment_Inner : Hint := (.s .n (.s .n .n))

def con_fragment_Inner : Con Try.prog := ⟨26, [.d (.sl P_api_Partial), .d (.int .i64), .d P_api_Message, .d (.int .i64)], [.d (.sl P_api_Partial), .d P_api_Message, .d .bool, .d (.int .i64)], ⟨Try.f26, Try.func26, by kernel_rfl, by kernel_rfl⟩, m_fragment_Inner, fun a r h => mkM_ok (T := t_fragment_Inner) (N := 22) (own := []) (rng := []) (c := (codeOf Try.f26)) (h := h_fragment_Inner) (qs := [.tmp 8, .cell 9 25, .tmp 10, .tmp 11]) kMix Try.func26 (by kernel_rfl) (by kernel_rfl) (by kernel_rfl) (by kernel_rfl) a r (Eq.trans (by kernel_rfl) h)⟩
def t_coresecref01_Compare : Tab Try.prog := ⟨tes, ses, fes, bes, [], [], fds, []⟩
def h_coresecref01_Compare : Hint := (.s .n (.s (.s .n (.b (.l .g ⟨[.d 5 (.int .i64)], [0, 1]⟩ (.s (.j ⟨[.d 15 .bool], [0, 1, 5]⟩ false .n (.c .n .n)) (.s (.b (.s .n (.c (.s (.s .n (.c (.s .n .n) .n)) (.s .n .n)) .n))) .n))))) (.s (.b (.s .n (.c (.s .n .n) (.s .n (.c (.s .n .n) .n))))) (.s .n .n))))

def con_coresecref01_Compare : Con Try.prog := ⟨51, [.d (.sl (.int .u8)), .d (.sl (.int .u8))], [.d (.int .i64)], ⟨Try.f51, Try.func51, by kernel_rfl, by kernel_rfl⟩, m_coresecref01_Compare, fun a r h => mkM_ok (T := t_coresecref01_Compare) (N := 48) (own := []) (rng := []) (c := (codeOf Try.f51)) (h := h_coresecref01_Compare) (qs := [.tmp 4]) kMix Try.func51 (by kernel_rfl) (by kernel_rfl) (by kernel_rfl) (by kernel_rfl) a r (Eq.trans (by kernel_rfl) h)⟩
def t_coresecref26_Equal : Tab Try.prog := ⟨tes, ses, fes, bes, [con_coresecref01_Compare], [], fds, []⟩
def h_coresecref26_Equal : Hint := (.s .n (.j ⟨[.d 4 .bool], []⟩ false .n .n))

def con_coresecref26_Equal : Con Try.prog := ⟨21, [.d (.sl (.int .u8)), .d (.sl (.int .u8))], [.d .bool], ⟨Try.f21, Try.func21, by kernel_rfl, by kernel_rfl⟩, m_coresecref26_Equal, fun a r h => mkM_ok (T := t_coresecref26_Equal) (N := 16) (own := []) (rng := []) (c := (codeOf Try.f21)) (h := h_coresecref26_Equal) (qs := [.tmp 4]) kMix Try.func21 (by kernel_rfl) (by kernel_rfl) (by kernel_rfl) (by kernel_rfl) a r (Eq.trans (by kernel_rfl) h)⟩
def t_coreseclaw33_FragmentApart : Tab Try.prog := ⟨tes, ses, fes, bes, [con_coresecmake_New, con_coreseclaw33_body, con_coresecmake_Some, con_coresecmake_Mod, con_fragment_Key, con_fragment_Cut, con_fragment_Inner, con_coresecref26_Equal], [], fds, []⟩
def h_coreseclaw33_FragmentApart : Hint := (.s .n (.s .n (.s .n (.s .n (.s .n (.s .n (.s .n (.s (.j ⟨[.d 50 .bool], [6, 7, 8, 9, 11]⟩ false .n (.c (.s .n .n) .n)) (.s .n (.s .n (.s .n (.s (.j ⟨[.d 77 .bool], [8, 9, 11, 15, 17]⟩ false .n (.c (.s .n .n) .n)) (.s .n (.s (.j ⟨[.d 93 .bool], [10, 20]⟩ false .n (.c (.j ⟨[.d 4 .bool], []⟩ false .n .n) .n)) (.s .n .n)))))))))))))))

def con_coreseclaw33_FragmentApart : Con Try.prog := ⟨4, [.d (.sl (.int .i64)), .d (.int .i64)], [.d .bool], ⟨Try.f4, Try.func4, by kernel_rfl, by kernel_rfl⟩, m_coreseclaw33_FragmentApart, fun a r h => mkM_ok (T := t_coreseclaw33_FragmentApart) (N := 111) (own := []) (rng := []) (c := (codeOf Try.f4)) (h := h_coreseclaw33_FragmentApart) (qs := [.tmp 4]) kMix Try.func4 (by kernel_rfl) (by kernel_rfl) (by kernel_rfl) (by kernel_rfl) a r (Eq.trans (by kernel_rfl) h)⟩
def t_coresecref18_length : Tab Try.prog := ⟨tes, ses, fes, bes, [], [], fds, []⟩
def h_coresecref18_length : Hint := (.s .n (.s .n .n))

def con_coresecref18_length : Con Try.prog := ⟨61, [.d (.int .i64)], [.d (.int .i64)], ⟨Try.f61, Try.func61, by kernel_rfl, by kernel_rfl⟩, m_coresecref18_length, fun a r h => mkM_ok (T := t_coresecref18_length) (N := 6) (own := []) (rng := []) (c := (codeOf Try.f61)) (h := h_coresecref18_length) (qs := [.tmp 2]) kMix Try.func61 (by kernel_rfl) (by kernel_rfl) (by kernel_rfl) (by kernel_rfl) a r (Eq.trans (by kernel_rfl) h)⟩
def t_coresecref18_Blocks : Tab Try.prog := ⟨tes, ses, fes, bes, [con_coresecref18_length], [], fds, []⟩
def h_coresecref18_Blocks : Hint := (.s .n (.s (.j ⟨[.d 18 .bool], [0, 1]⟩ false .n (.c (.s .n .n) .n)) (.s .n .n)))

def con_coresecref18_Blocks : Con Try.prog := ⟨27, [.d (.int .i64), .d (.int .i64)], [.d (.int .i64)], ⟨Try.f27, Try.func27, by kernel_rfl, by kernel_rfl⟩, m_coresecref18_Blocks, fun a r h => mkM_ok (T := t_coresecref18_Blocks) (N := 28) (own := []) (rng := []) (c := (codeOf Try.f27)) (h := h_coresecref18_Blocks) (qs := [.tmp 4]) kMix Try.func27 (by kernel_rfl) (by kernel_rfl) (by kernel_rfl) (by kernel_rfl) a r (Eq.trans (by kernel_rfl) h)⟩
def t_fragment_Outer : Tab Try.prog := ⟨tes, ses, fes, bes, [con_fragment_sound, con_fragment_putting, con_fragment_putting_1], [], fds, []⟩
def h_fragment_Outer : Hint := (.s .n (.s (.s .n (.j ⟨[.d 26 .bool], [0, 1, 3, 6, 9]⟩ false .n (.c (.s .n .n) .n))) (.s .n .n)))

def con_fragment_Outer : Con Try.prog := ⟨28, [.d (.sl P_api_Partial), .d (.int .i64), .d P_api_Message, .d (.int .i64)], [.d (.sl P_api_Partial), .d P_api_Message, .d .bool, .d (.int .i64)], ⟨Try.f28, Try.func28, by kernel_rfl, by kernel_rfl⟩, m_fragment_Outer, fun a r h => mkM_ok (T := t_fragment_Outer) (N := 38) (own := []) (rng := []) (c := (codeOf Try.f28)) (h := h_fragment_Outer) (qs := [.tmp 8, .cell 9 25, .tmp 10, .tmp 11]) kMix Try.func28 (by kernel_rfl) (by kernel_rfl) (by kernel_rfl) (by kernel_rfl) a r (Eq.trans (by kernel_rfl) h)⟩
def t_coresecref15_Same : Tab Try.prog := ⟨tes, ses, fes, bes, [], [], fds, []⟩
def h_coresecref15_Same : Hint := (.s .n (.s (.j ⟨[.d 52 .bool], [2, 3]⟩ false .n (.c (.s .n .n) .n)) (.s (.s .n (.b (.l (.a 56 55) ⟨[], [3, 54, 55]⟩ (.s .n (.s (.c .n .n) (.s (.b (.s .n (.j ⟨[.d 82 .bool], [3, 54, 55, 56]⟩ false .n (.c (.s .n .n) .n)))) .n)))))) (.s .n .n))))

def con_coresecref15_Same : Con Try.prog := ⟨29, [.d P_api_Message, .d P_api_Message], [.d .bool], ⟨Try.f29, Try.func29, by kernel_rfl, by kernel_rfl⟩, m_coresecref15_Same, fun a r h => mkM_ok (T := t_coresecref15_Same) (N := 84) (own := []) (rng := [55]) (c := (codeOf Try.f29)) (h := h_coresecref15_Same) (qs := [.tmp 4]) kMix Try.func29 (by kernel_rfl) (by kernel_rfl) (by kernel_rfl) (by kernel_rfl) a r (Eq.trans (by kernel_rfl) h)⟩
def t_coreseclaw33_awake : Tab Try.prog := ⟨tes, ses, fes, bes, [con_fragment_Cut], [], fds, []⟩
def h_coreseclaw33_awake : Hint := (.s .n (.s .n (.s .n (.s .n (.j ⟨[.d 0 .bool], []⟩ false .n .n)))))

def con_coreseclaw33_awake : Con Try.prog := ⟨9, [], [.d .bool], ⟨Try.f9, Try.func9, by kernel_rfl, by kernel_rfl⟩, m_coreseclaw33_awake, fun a r h => mkM_ok (T := t_coreseclaw33_awake) (N := 62) (own := []) (rng := []) (c := (codeOf Try.f9)) (h := h_coreseclaw33_awake) (qs := [.tmp 0]) kMix Try.func9 (by kernel_rfl) (by kernel_rfl) (by kernel_rfl) (by kernel_rfl) a r (Eq.trans (by kernel_rfl) h)⟩
def t_coreseclaw33_FragmentBack : Tab Try.prog := ⟨tes, ses, fes, bes, [con_coresecmake_New, con_coreseclaw33_body, con_coresecmake_Mod, con_coresecref18_Blocks, con_fragment_Cut, con_fragment_Outer, con_coresecref15_Same, con_coreseclaw33_awake, con_coresecmake_Deck_Next], [], fds, []⟩
def h_coreseclaw33_FragmentBack : Hint := (.s .n (.s .n (.s .n (.s .n (.s .n (.s (.s .n (.b (.l .g ⟨[.d 8 (.sl P_api_Partial), .d 10 (.int .i64), .b 5 66 P_coresecmake_Deck], [5, 6, 7, 9]⟩ (.s (.s .n (.c .n .n)) (.j ⟨[.d 8 (.sl P_api_Partial), .b 5 66 P_coresecmake_Deck], [5, 6, 7, 9, 10]⟩ true (.b (.s .n (.s (.s .n (.c (.s .n .n) .n)) (.s .n (.s .n (.s (.j ⟨[.d 70 .bool], [5, 6, 7, 9, 10, 11, 13, 14, 15]⟩ false .n (.c (.s .n .n) .n)) (.s .n (.s (.s .n (.c (.j ⟨[.d 4 .bool], []⟩ false .n .n) .n)) (.j ⟨[.d 90 .bool, .b 5 66 P_coresecmake_Deck], [5, 6, 7, 8, 9, 10, 11]⟩ false .n (.c (.s .n (.s .n (.c (.s .n .n) .n))) .n)))))))))) .n))))) (.s .n .n)))))))

def con_coreseclaw33_FragmentBack : Con Try.prog := ⟨5, [.d (.sl (.int .i64)), .d (.int .i64)], [.d .bool], ⟨Try.f5, Try.func5, by kernel_rfl, by kernel_rfl⟩, m_coreseclaw33_FragmentBack, fun a r h => mkM_ok (T := t_coreseclaw33_FragmentBack) (N := 103) (own := []) (rng := []) (c := (codeOf Try.f5)) (h := h_coreseclaw33_FragmentBack) (qs := [.tmp 4]) kMix Try.func5 (by kernel_rfl) (by kernel_rfl) (by kernel_rfl) (by kernel_rfl) a r (Eq.trans (by kernel_rfl) h)⟩
def t_coresecmake2_Small : Tab Try.prog := ⟨tes, ses, fes, bes, [], [], fds, []⟩
def h_coresecmake2_Small : Hint := (.s .n (.s .n .n))

def con_coresecmake2_Small : Con Try.prog := ⟨38, [.d (.sl (.int .u8))], [.d .bool], ⟨Try.f38, Try.func38, by kernel_rfl, by kernel_rfl⟩, m_coresecmake2_Small, fun a r h => mkM_ok (T := t_coresecmake2_Small) (N := 6) (own := []) (rng := []) (c := (codeOf Try.f38)) (h := h_coresecmake2_Small) (qs := [.tmp 2]) kMix Try.func38 (by kernel_rfl) (by kernel_rfl) (by kernel_rfl) (by kernel_rfl) a r (Eq.trans (by kernel_rfl) h)⟩
def t_coreseclaw33_light : Tab Try.prog := ⟨tes, ses, fes, bes, [con_coresecmake2_Small], [], fds, []⟩
def h_coreseclaw33_light : Hint := (.s .n (.s (.s .n (.b (.l (.a 7 6) ⟨[], [0, 5, 6]⟩ (.s .n (.s (.c .n .n) (.s (.b (.s .n (.j ⟨[.d 20 .bool], [0, 5, 6, 7]⟩ false .n (.c (.s .n .n) .n)))) .n)))))) (.s .n .n)))

def con_coreseclaw33_light : Con Try.prog := ⟨30, [.d (.sl P_api_Partial)], [.d .bool], ⟨Try.f30, Try.func30, by kernel_rfl, by kernel_rfl⟩, m_coreseclaw33_light, fun a r h => mkM_ok (T := t_coreseclaw33_light) (N := 25) (own := []) (rng := [6]) (c := (codeOf Try.f30)) (h := h_coreseclaw33_light) (qs := [.tmp 2]) kMix Try.func30 (by kernel_rfl) (by kernel_rfl) (by kernel_rfl) (by kernel_rfl) a r (Eq.trans (by kernel_rfl) h)⟩
def t_coresecmake2_Message : Tab Try.prog := ⟨tes, ses, fes, bes, [con_coresecmake2_Small], [], fds, []⟩
def h_coresecmake2_Message : Hint := (.s .n (.s (.s .n (.b (.l (.a 8 7) ⟨[], [1, 6, 7]⟩ (.s .n (.s (.c .n .n) (.s (.b (.s .n (.s .n (.c (.s .n .n) .n)))) .n)))))) (.j ⟨[.d 2 .bool], []⟩ false .n .n)))

def con_coresecmake2_Message : Con Try.prog := ⟨7, [.d P_api_Message], [.d .bool], ⟨Try.f7, Try.func7, by kernel_rfl, by kernel_rfl⟩, m_coresecmake2_Message, fun a r h => mkM_ok (T := t_coresecmake2_Message) (N := 31) (own := []) (rng := [7]) (c := (codeOf Try.f7)) (h := h_coresecmake2_Message) (qs := [.tmp 2]) kMix Try.func7 (by kernel_rfl) (by kernel_rfl) (by kernel_rfl) (by kernel_rfl) a r (Eq.trans (by kernel_rfl) h)⟩
def t_coresecmake_Few : Tab Try.prog := ⟨tes, ses, fes, bes, [], [], fds, []⟩
def h_coresecmake_Few : Hint := (.s .n (.s .n .n))

def con_coresecmake_Few : Con Try.prog := ⟨31, [.d (.sl (.int .i64))], [.d .bool], ⟨Try.f31, Try.func31, by kernel_rfl, by kernel_rfl⟩, m_coresecmake_Few, fun a r h => mkM_ok (T := t_coresecmake_Few) (N := 6) (own := []) (rng := []) (c := (codeOf Try.f31)) (h := h_coresecmake_Few) (qs := [.tmp 2]) kMix Try.func31 (by kernel_rfl) (by kernel_rfl) (by kernel_rfl) (by kernel_rfl) a r (Eq.trans (by kernel_rfl) h)⟩
def t_coresecref16_Uint : Tab Try.prog := ⟨tes, ses, fes, bes, [], [], fds, []⟩
def h_coresecref16_Uint : Hint := (.s .n (.s .n (.s (.s .n (.b (.l (.a 9 8) ⟨[.d 4 (.int .i64)], [7, 8]⟩ (.s .n (.s (.c .n .n) (.s (.b (.s .n (.s .n (.s .n (.c (.s .n .n) .n))))) .n)))))) (.s .n .n))))

def con_coresecref16_Uint : Con Try.prog := ⟨86, [.d (.sl (.int .u8))], [.d (.int .i64), .d (.int .i64)], ⟨Try.f86, Try.func86, by kernel_rfl, by kernel_rfl⟩, m_coresecref16_Uint, fun a r h => mkM_ok (T := t_coresecref16_Uint) (N := 22) (own := []) (rng := [8]) (c := (codeOf Try.f86)) (h := h_coresecref16_Uint) (qs := [.tmp 2, .tmp 3]) kMix Try.func86 (by kernel_rfl) (by kernel_rfl) (by kernel_rfl) (by kernel_rfl) a r (Eq.trans (by kernel_rfl) h)⟩
def t_coresecref18_Parse : Tab Try.prog := ⟨tes, ses, fes, bes, [con_coresecref16_Uint], [], fds, []⟩
def h_coresecref18_Parse : Hint := (.s .n (.s (.s .n (.c (.s .n .n) .n)) (.s .n (.s (.s .n (.c (.s .n .n) .n)) (.s .n .n)))))

def con_coresecref18_Parse : Con Try.prog := ⟨71, [.d (.sl (.int .u8))], [.d P_api_Block, .d (.int .i64)], ⟨Try.f71, Try.func71, by kernel_rfl, by kernel_rfl⟩, m_coresecref18_Parse, fun a r h => mkM_ok (T := t_coresecref18_Parse) (N := 28) (own := []) (rng := []) (c := (codeOf Try.f71)) (h := h_coresecref18_Parse) (qs := [.cell 2 72, .tmp 3]) kMix Try.func71 (by kernel_rfl) (by kernel_rfl) (by kernel_rfl) (by kernel_rfl) a r (Eq.trans (by kernel_rfl) h)⟩
def t_coresecref33_Sound : Tab Try.prog := ⟨tes, ses, fes, bes, [con_coresecref16_All, con_coresecref18_Parse], [], fds, []⟩
def h_coresecref33_Sound : Hint := (.s .n (.s .n (.s (.s .n (.c (.s .n .n) .n)) (.s .n (.s (.j ⟨[.d 30 .bool], [4, 8]⟩ false .n (.c (.s .n .n) .n)) (.s .n .n))))))

def con_coresecref33_Sound : Con Try.prog := ⟨45, [.d P_api_Message, .d (.int .i64)], [.d P_api_Block, .d .bool, .d .bool], ⟨Try.f45, Try.func45, by kernel_rfl, by kernel_rfl⟩, m_coresecref33_Sound, fun a r h => mkM_ok (T := t_coresecref33_Sound) (N := 33) (own := []) (rng := []) (c := (codeOf Try.f45)) (h := h_coresecref33_Sound) (qs := [.cell 4 72, .tmp 5, .tmp 6]) kMix Try.func45 (by kernel_rfl) (by kernel_rfl) (by kernel_rfl) (by kernel_rfl) a r (Eq.trans (by kernel_rfl) h)⟩
def t_coresecref18_valid : Tab Try.prog := ⟨tes, ses, fes, bes, [], [], fds, []⟩
def h_coresecref18_valid : Hint := (.s .n (.j ⟨[.d 2 .bool], []⟩ false .n .n))

def con_coresecref18_valid : Con Try.prog := ⟨68, [.d P_api_Block], [.d .bool], ⟨Try.f68, Try.func68, by kernel_rfl, by kernel_rfl⟩, m_coresecref18_valid, fun a r h => mkM_ok (T := t_coresecref18_valid) (N := 21) (own := []) (rng := []) (c := (codeOf Try.f68)) (h := h_coresecref18_valid) (qs := [.tmp 2]) kMix Try.func68 (by kernel_rfl) (by kernel_rfl) (by kernel_rfl) (by kernel_rfl) a r (Eq.trans (by kernel_rfl) h)⟩
def t_coresecref18_Cut : Tab Try.prog := ⟨tes, ses, fes, bes, [con_coresecref18_valid, con_coresecref18_length], [], fds, []⟩
def h_coresecref18_Cut : Hint := (.s .n (.s (.s .n (.c (.s .n .n) .n)) (.s .n (.s (.j ⟨[.d 30 .bool], [0, 2, 9]⟩ false .n (.c (.s .n .n) .n)) (.s .n (.s .n .n))))))

def con_coresecref18_Cut : Con Try.prog := ⟨62, [.d (.sl (.int .u8)), .d (.int .i64), .d (.int .i64)], [.d (.sl (.int .u8)), .d .bool, .d (.int .i64)], ⟨Try.f62, Try.func62, by kernel_rfl, by kernel_rfl⟩, m_coresecref18_Cut, fun a r h => mkM_ok (T := t_coresecref18_Cut) (N := 47) (own := []) (rng := []) (c := (codeOf Try.f62)) (h := h_coresecref18_Cut) (qs := [.tmp 6, .tmp 7, .tmp 8]) kMix Try.func62 (by kernel_rfl) (by kernel_rfl) (by kernel_rfl) (by kernel_rfl) a r (Eq.trans (by kernel_rfl) h)⟩
def t_coresecref16_FromUint : Tab Try.prog := ⟨tes, ses, fes, bes, [], [], fds, []⟩
def h_coresecref16_FromUint : Hint := (.s .n (.s (.j ⟨[.d 9 .bool], [0]⟩ false .n (.c (.s .n .n) .n)) (.s .n (.j ⟨[.d 3 (.sl (.int .u8))], []⟩ false (.b (.l .g ⟨[.d 0 (.int .i64), .d 3 (.sl (.int .u8))], []⟩ (.s (.s .n (.c .n .n)) (.s (.b .n) .n)))) (.s .n .n)))))

def con_coresecref16_FromUint : Con Try.prog := ⟨69, [.d (.int .i64)], [.d (.sl (.int .u8))], ⟨Try.f69, Try.func69, by kernel_rfl, by kernel_rfl⟩, m_coresecref16_FromUint, fun a r h => mkM_ok (T := t_coresecref16_FromUint) (N := 20) (own := [16]) (rng := []) (c := (codeOf Try.f69)) (h := h_coresecref16_FromUint) (qs := [.tmp 2]) kMix Try.func69 (by kernel_rfl) (by kernel_rfl) (by kernel_rfl) (by kernel_rfl) a r (Eq.trans (by kernel_rfl) h)⟩
def t_coresecref18_Value : Tab Try.prog := ⟨tes, ses, fes, bes, [con_coresecref18_valid, con_coresecref16_FromUint], [], fds, []⟩
def h_coresecref18_Value : Hint := (.s .n (.s (.s .n (.c (.s .n .n) .n)) (.s .n (.j ⟨[.d 4 (.int .i64)], []⟩ false (.s .n (.c .n .n)) (.s .n .n)))))

def con_coresecref18_Value : Con Try.prog := ⟨42, [.d P_api_Block], [.d (.sl (.int .u8)), .d (.int .i64)], ⟨Try.f42, Try.func42, by kernel_rfl, by kernel_rfl⟩, m_coresecref18_Value, fun a r h => mkM_ok (T := t_coresecref18_Value) (N := 20) (own := []) (rng := []) (c := (codeOf Try.f42)) (h := h_coresecref18_Value) (qs := [.tmp 2, .tmp 3]) kMix Try.func42 (by kernel_rfl) (by kernel_rfl) (by kernel_rfl) (by kernel_rfl) a r (Eq.trans (by kernel_rfl) h)⟩
def t_coresecref33_Cut : Tab Try.prog := ⟨tes, ses, fes, bes, [con_coresecref33_Sound, con_coresecref18_Cut, con_coresecref18_Value, con_coresecref16_Set], [], fds, []⟩
def h_coresecref33_Cut : Hint := (.s .n (.s (.j ⟨[.d 24 .bool], [1, 2, 3, 4, 8]⟩ false .n (.c (.s .n .n) .n)) (.s (.s .n (.s .n (.c (.s .n .n) .n))) (.s .n (.s (.s .n (.c (.s .n .n) .n)) (.s .n (.s .n (.s .n (.s .n .n)))))))))

def con_coresecref33_Cut : Con Try.prog := ⟨32, [.d P_api_Message, .d (.int .i64), .d (.int .i64), .d (.int .i64)], [.d P_api_Message, .d (.int .i64)], ⟨Try.f32, Try.func32, by kernel_rfl, by kernel_rfl⟩, m_coresecref33_Cut, fun a r h => mkM_ok (T := t_coresecref33_Cut) (N := 64) (own := []) (rng := []) (c := (codeOf Try.f32)) (h := h_coresecref33_Cut) (qs := [.cell 8 25, .tmp 9]) kMix Try.func32 (by kernel_rfl) (by kernel_rfl) (by kernel_rfl) (by kernel_rfl) a r (Eq.trans (by kernel_rfl) h)⟩
def t_coresecmake2_Block : Tab Try.prog := ⟨tes, ses, fes, bes, [con_coresecmake_Deck_Next, con_coresecref18_Value], [], fds, []⟩
def h_coresecmake2_Block : Hint := (.s .n (.s .n (.s .n .n)))

def con_coresecmake2_Block : Con Try.prog := ⟨14, [.p 66 P_coresecmake_Deck, .d (.int .i64)], [.d (.sl (.int .u8))], ⟨Try.f14, Try.func14, by kernel_rfl, by kernel_rfl⟩, m_coresecmake2_Block, fun a r h => mkM_ok (T := t_coresecmake2_Block) (N := 19) (own := []) (rng := []) (c := (codeOf Try.f14)) (h := h_coresecmake2_Block) (qs := [.tmp 4]) kMix Try.func14 (by kernel_rfl) (by kernel_rfl) (by kernel_rfl) (by kernel_rfl) a r (Eq.trans (by kernel_rfl) h)⟩
def t_coresecref33_position : Tab Try.prog := ⟨tes, ses, fes, bes, [], [], fds, []⟩
def h_coresecref33_position : Hint := (.s .n (.s .n .n))

def con_coresecref33_position : Con Try.prog := ⟨46, [.d P_api_Block], [.d (.int .i64)], ⟨Try.f46, Try.func46, by kernel_rfl, by kernel_rfl⟩, m_coresecref33_position, fun a r h => mkM_ok (T := t_coresecref33_position) (N := 10) (own := []) (rng := []) (c := (codeOf Try.f46)) (h := h_coresecref33_position) (qs := [.tmp 2]) kMix Try.func46 (by kernel_rfl) (by kernel_rfl) (by kernel_rfl) (by kernel_rfl) a r (Eq.trans (by kernel_rfl) h)⟩
def t_coresecref15_extended : Tab Try.prog := ⟨tes, ses, fes, bes, [], [], fds, []⟩
def h_coresecref15_extended : Hint := (.s .n (.s (.b (.s .n (.c (.s .n .n) (.s .n (.c (.s .n .n) .n))))) (.s .n .n)))

def con_coresecref15_extended : Con Try.prog := ⟨91, [.d (.int .i64)], [.d (.int .i64), .d (.sl (.int .u8))], ⟨Try.f91, Try.func91, by kernel_rfl, by kernel_rfl⟩, m_coresecref15_extended, fun a r h => mkM_ok (T := t_coresecref15_extended) (N := 23) (own := []) (rng := []) (c := (codeOf Try.f91)) (h := h_coresecref15_extended) (qs := [.tmp 2, .tmp 3]) kMix Try.func91 (by kernel_rfl) (by kernel_rfl) (by kernel_rfl) (by kernel_rfl) a r (Eq.trans (by kernel_rfl) h)⟩
def t_coresecref15_Raw : Tab Try.prog := ⟨tes, ses, fes, bes, [con_coresecref15_extended], [], fds, []⟩
def h_coresecref15_Raw : Hint := (.s .n (.s .n (.s .n (.s .n (.s (.s .n (.b (.l (.a 38 37) ⟨[.o 3 5 (.int .u8), .d 4 (.int .i64)], [1, 36, 37]⟩ (.s .n (.s (.c .n .n) (.s (.b (.s .n (.s .n (.s .n (.s .n .n))))) .n)))))) (.j ⟨[.o 3 5 (.int .u8)], []⟩ false (.s .n (.c .n .n)) (.s .n .n)))))))

def con_coresecref15_Raw : Con Try.prog := ⟨90, [.d P_api_Message], [.d (.sl (.int .u8))], ⟨Try.f90, Try.func90, by kernel_rfl, by kernel_rfl⟩, m_coresecref15_Raw, fun a r h => mkM_ok (T := t_coresecref15_Raw) (N := 86) (own := [30, 34, 64, 66, 68, 71, 81, 84]) (rng := [37]) (c := (codeOf Try.f90)) (h := h_coresecref15_Raw) (qs := [.tmp 2]) kMix Try.func90 (by kernel_rfl) (by kernel_rfl) (by kernel_rfl) (by kernel_rfl) a r (Eq.trans (by kernel_rfl) h)⟩
def t_coresecref15_Valid : Tab Try.prog := ⟨tes, ses, fes, bes, [con_coresecref15_Raw], [], fds, []⟩
def h_coresecref15_Valid : Hint := (.s .n (.s (.j ⟨[.d 52 .bool], [1]⟩ false .n (.c (.s .n .n) .n)) (.s .n (.s (.j ⟨[.d 69 .bool], [1]⟩ false .n (.c (.s .n .n) .n)) (.s .n (.s (.s .n (.b (.l (.a 73 72) ⟨[.d 4 (.int .i64)], [1, 71, 72]⟩ (.s .n (.s (.c .n .n) (.s (.b (.s .n (.s (.j ⟨[.d 91 .bool], [1, 6, 71, 72, 73]⟩ false .n (.c (.s .n .n) .n)) .n))) .n)))))) (.s (.j ⟨[.d 121 .bool], [1]⟩ false .n (.c (.s .n .n) .n)) (.s .n .n))))))))

def con_coresecref15_Valid : Con Try.prog := ⟨89, [.d P_api_Message], [.d .bool], ⟨Try.f89, Try.func89, by kernel_rfl, by kernel_rfl⟩, m_coresecref15_Valid, fun a r h => mkM_ok (T := t_coresecref15_Valid) (N := 126) (own := []) (rng := [72]) (c := (codeOf Try.f89)) (h := h_coresecref15_Valid) (qs := [.tmp 2]) kMix Try.func89 (by kernel_rfl) (by kernel_rfl) (by kernel_rfl) (by kernel_rfl) a r (Eq.trans (by kernel_rfl) h)⟩
def t_coresecref15_Encode : Tab Try.prog := ⟨tes, ses, fes, bes, [con_coresecref15_Valid, con_coresecref15_Raw], [], fds, []⟩
def h_coresecref15_Encode : Hint := (.s .n (.s (.s .n (.c (.s .n .n) .n)) (.s .n .n)))

def con_coresecref15_Encode : Con Try.prog := ⟨83, [.d P_api_Message], [.d (.sl (.int .u8)), .d (.int .i64)], ⟨Try.f83, Try.func83, by kernel_rfl, by kernel_rfl⟩, m_coresecref15_Encode, fun a r h => mkM_ok (T := t_coresecref15_Encode) (N := 9) (own := []) (rng := []) (c := (codeOf Try.f83)) (h := h_coresecref15_Encode) (qs := [.tmp 2, .tmp 3]) kMix Try.func83 (by kernel_rfl) (by kernel_rfl) (by kernel_rfl) (by kernel_rfl) a r (Eq.trans (by kernel_rfl) h)⟩
def t_coresecref33_Key : Tab Try.prog := ⟨tes, ses, fes, bes, [con_coresecref15_Encode], [6, 34], fds, [(17, 4, 23)]⟩
def h_coresecref33_Key : Hint := (.s .n (.s (.j ⟨[.d 14 .bool], [1, 2]⟩ false .n (.c (.s .n .n) .n)) (.s .n (.s (.s .n (.b (.l (.a 21 20) ⟨[.h 6 25 P_api_Message 4 63 P_api_Option], [1, 6, 19, 20]⟩ (.s .n (.s (.c .n .n) (.j ⟨[.h 6 25 P_api_Message 4 63 P_api_Option], [1, 6, 19, 20, 21]⟩ false (.b (.s .n (.s .n (.c .n .n)))) .n)))))) (.s .n .n)))))

def con_coresecref33_Key : Con Try.prog := ⟨65, [.d P_api_Message, .d (.int .i64)], [.d (.sl (.int .u8)), .d (.int .i64)], ⟨Try.f65, Try.func65, by kernel_rfl, by kernel_rfl⟩, m_coresecref33_Key, fun a r h => mkM_ok (T := t_coresecref33_Key) (N := 40) (own := [33]) (rng := [20]) (c := (codeOf Try.f65)) (h := h_coresecref33_Key) (qs := [.tmp 4, .tmp 5]) kMix Try.func65 (by kernel_rfl) (by kernel_rfl) (by kernel_rfl) (by kernel_rfl) a r (Eq.trans (by kernel_rfl) h)⟩
def t_coresecref18_Valid : Tab Try.prog := ⟨tes, ses, fes, bes, [], [], fds, []⟩
def h_coresecref18_Valid : Hint := (.s .n (.s (.s .n (.c (.s .n .n) .n)) (.s (.s .n (.b (.l (.a 12 11) ⟨[], [0, 10, 11]⟩ (.s .n (.s (.c .n .n) (.s (.b (.s .n (.s (.j ⟨[.d 41 .bool], [0, 3, 4, 10, 11, 12]⟩ false .n (.c (.s .n .n) .n)) (.s .n (.b (.l (.a 46 45) ⟨[], [0, 4, 10, 11, 12, 44, 45]⟩ (.s .n (.s (.c .n .n) (.s (.b (.s .n (.j ⟨[.d 63 .bool], [0, 4, 10, 11, 12, 44, 45, 46]⟩ false .n (.c (.s .n .n) .n)))) .n))))))))) .n)))))) (.s .n .n))))

def con_coresecref18_Valid : Con Try.prog := ⟨84, [.d (.sl P_api_Partial)], [.d .bool], ⟨Try.f84, Try.func84, by kernel_rfl, by kernel_rfl⟩, m_coresecref18_Valid, fun a r h => mkM_ok (T := t_coresecref18_Valid) (N := 66) (own := []) (rng := [11, 45]) (c := (codeOf Try.f84)) (h := h_coresecref18_Valid) (qs := [.tmp 2]) kMix Try.func84 (by kernel_rfl) (by kernel_rfl) (by kernel_rfl) (by kernel_rfl) a r (Eq.trans (by kernel_rfl) h)⟩
def t_coresecref18_Put : Tab Try.prog := ⟨tes, ses, fes, bes, [con_coresecref18_Valid, con_coresecref18_valid, con_coresecref18_length], [], fds, []⟩
def h_coresecref18_Put : Hint := (.s .n (.s (.j ⟨[.d 52 .bool], [0, 1, 2, 4, 5, 9]⟩ false .n (.c (.s .n .n) .n)) (.s .n (.s (.j ⟨[.d 84 .bool], [0, 1, 2, 4, 5, 9]⟩ false .n (.c (.s .n .n) .n)) (.s .n (.s .n (.s (.s .n (.b (.l (.a 87 86) ⟨[.o 17 54 P_api_Partial, .d 18 (.int .i64)], [1, 2, 4, 5, 9, 85, 86]⟩ (.s .n (.s (.c .n .n) (.j ⟨[.o 17 54 P_api_Partial, .d 18 (.int .i64)], [1, 2, 4, 5, 9, 85, 86, 87]⟩ false (.b (.s .n (.j ⟨[.d 21 .bool], [1, 2, 4, 5, 9, 17, 18, 20, 85, 86, 87]⟩ false .n (.s (.j ⟨[.d 114 .bool], [1, 2, 4, 5, 9, 17, 18, 20, 21, 85, 86, 87]⟩ false .n (.c .n .n)) (.j ⟨[.d 18 (.int .i64)], [1, 2, 4, 5, 9, 17, 20, 85, 86, 87]⟩ false (.s .n (.c .n .n)) .n))))) .n)))))) (.s .n (.j ⟨[.o 22 5 (.int .u8)], [1, 2, 4, 5, 9, 17, 18]⟩ true (.s .n (.c (.s (.j ⟨[.d 152 .bool], [1, 2, 4, 5, 9, 17, 18]⟩ false .n (.c (.s .n .n) .n)) .n) .n)) (.s .n (.s (.b (.s .n (.c (.s .n .n) (.j ⟨[.d 166 .bool], [1, 2, 5, 9, 17, 18, 22]⟩ false .n (.c (.s .n .n) (.s .n (.c (.s .n .n) (.j ⟨[.d 190 .bool], [1, 2, 5, 17, 18, 22]⟩ false .n (.c (.s .n .n) .n))))))))) (.s .n (.s (.s .n (.c (.s .n .n) .n)) (.s .n (.s .n .n)))))))))))))))

def con_coresecref18_Put : Con Try.prog := ⟨66, [.d (.sl P_api_Partial), .d (.int .i64), .d (.sl (.int .u8)), .d P_api_Block, .d (.sl (.int .u8)), .d (.int .i64)], [.d (.sl P_api_Partial), .d (.sl (.int .u8)), .d .bool, .d (.int .i64)], ⟨Try.f66, Try.func66, by kernel_rfl, by kernel_rfl⟩, m_coresecref18_Put, fun a r h => mkM_ok (T := t_coresecref18_Put) (N := 216) (own := [131, 158, 161, 177]) (rng := [86]) (c := (codeOf Try.f66)) (h := h_coresecref18_Put) (qs := [.tmp 12, .tmp 13, .tmp 14, .tmp 15]) kMix Try.func66 (by kernel_rfl) (by kernel_rfl) (by kernel_rfl) (by kernel_rfl) a r (Eq.trans (by kernel_rfl) h)⟩
def t_coresecref33_Put : Tab Try.prog := ⟨tes, ses, fes, bes, [con_coresecref33_Sound, con_coresecref33_position, con_coresecref33_Key, con_coresecref18_Put, con_coresecref16_Set], [], fds, []⟩
def h_coresecref33_Put : Hint := (.s .n (.s (.j ⟨[.d 30 .bool], [0, 1, 3, 4, 5, 8, 13]⟩ false .n (.c (.s .n .n) .n)) (.s .n (.s (.s .n (.c (.s .n .n) .n)) (.s (.s .n (.c (.s .n .n) .n)) (.s (.s .n (.c (.s .n .n) .n)) (.s .n (.s (.s .n (.c (.s .n .n) .n)) (.s .n (.s (.s .n (.c (.s .n .n) .n)) (.s (.s .n (.c (.s .n .n) .n)) (.s .n (.s .n (.s .n .n))))))))))))))

def con_coresecref33_Put : Con Try.prog := ⟨37, [.d (.sl P_api_Partial), .d (.int .i64), .d P_api_Message, .d (.int .i64), .d (.int .i64), .d (.int .i64)], [.d (.sl P_api_Partial), .d P_api_Message, .d .bool, .d (.int .i64)], ⟨Try.f37, Try.func37, by kernel_rfl, by kernel_rfl⟩, m_coresecref33_Put, fun a r h => mkM_ok (T := t_coresecref33_Put) (N := 93) (own := []) (rng := []) (c := (codeOf Try.f37)) (h := h_coresecref33_Put) (qs := [.tmp 12, .cell 13 25, .tmp 14, .tmp 15]) kMix Try.func37 (by kernel_rfl) (by kernel_rfl) (by kernel_rfl) (by kernel_rfl) a r (Eq.trans (by kernel_rfl) h)⟩
def t_coresecref33_Outer : Tab Try.prog := ⟨tes, ses, fes, bes, [con_coresecref33_Sound, con_coresecref33_Put], [], fds, []⟩
def h_coresecref33_Outer : Hint := (.s .n (.s (.s .n (.j ⟨[.d 26 .bool], [0, 1, 3, 6, 9]⟩ false .n (.c (.s .n .n) .n))) (.s .n .n)))

def con_coresecref33_Outer : Con Try.prog := ⟨33, [.d (.sl P_api_Partial), .d (.int .i64), .d P_api_Message, .d (.int .i64)], [.d (.sl P_api_Partial), .d P_api_Message, .d .bool, .d (.int .i64)], ⟨Try.f33, Try.func33, by kernel_rfl, by kernel_rfl⟩, m_coresecref33_Outer, fun a r h => mkM_ok (T := t_coresecref33_Outer) (N := 37) (own := []) (rng := []) (c := (codeOf Try.f33)) (h := h_coresecref33_Outer) (qs := [.tmp 8, .cell 9 25, .tmp 10, .tmp 11]) kMix Try.func33 (by kernel_rfl) (by kernel_rfl) (by kernel_rfl) (by kernel_rfl) a r (Eq.trans (by kernel_rfl) h)⟩
def t_coresecref18_Same : Tab Try.prog := ⟨tes, ses, fes, bes, [], [], fds, []⟩
def h_coresecref18_Same : Hint := (.s .n (.s (.s .n (.c (.s .n .n) .n)) (.s (.s .n (.b (.l (.a 14 13) ⟨[], [1, 12, 13]⟩ (.s .n (.s (.c .n .n) (.s (.b (.s .n (.j ⟨[.d 60 .bool], [1, 12, 13, 14]⟩ false .n (.c (.s .n .n) .n)))) .n)))))) (.s .n .n))))

def con_coresecref18_Same : Con Try.prog := ⟨34, [.d (.sl P_api_Partial), .d (.sl P_api_Partial)], [.d .bool], ⟨Try.f34, Try.func34, by kernel_rfl, by kernel_rfl⟩, m_coresecref18_Same, fun a r h => mkM_ok (T := t_coresecref18_Same) (N := 62) (own := []) (rng := [13]) (c := (codeOf Try.f34)) (h := h_coresecref18_Same) (qs := [.tmp 4]) kMix Try.func34 (by kernel_rfl) (by kernel_rfl) (by kernel_rfl) (by kernel_rfl) a r (Eq.trans (by kernel_rfl) h)⟩
def t_coresecref33_Inner : Tab Try.prog := ⟨tes, ses, fes, bes, [con_coresecref33_Put], [], fds, []⟩
def h_coresecref33_Inner : Hint := (.s .n (.s .n .n))

def con_coresecref33_Inner : Con Try.prog := ⟨35, [.d (.sl P_api_Partial), .d (.int .i64), .d P_api_Message, .d (.int .i64)], [.d (.sl P_api_Partial), .d P_api_Message, .d .bool, .d (.int .i64)], ⟨Try.f35, Try.func35, by kernel_rfl, by kernel_rfl⟩, m_coresecref33_Inner, fun a r h => mkM_ok (T := t_coresecref33_Inner) (N := 21) (own := []) (rng := []) (c := (codeOf Try.f35)) (h := h_coresecref33_Inner) (qs := [.tmp 8, .cell 9 25, .tmp 10, .tmp 11]) kMix Try.func35 (by kernel_rfl) (by kernel_rfl) (by kernel_rfl) (by kernel_rfl) a r (Eq.trans (by kernel_rfl) h)⟩
def t_coreseclaw33_FragmentPuts : Tab Try.prog := ⟨tes, ses, fes, bes, [con_coreseclaw33_light, con_coresecmake2_Message, con_coresecmake_Few, con_coreseclaw33_awake, con_coresecmake_New, con_coresecmake_Deck_Next, con_coreseclaw33_body, con_coresecref33_Cut, con_coresecmake2_Block, con_coresecref16_Set, con_fragment_Outer, con_coresecref33_Outer, con_coresecref18_Same, con_coresecref15_Same, con_fragment_Inner, con_coresecref33_Inner, con_coresecmake_Mod, con_fragment_Put, con_coresecref33_Put], [], fds, []⟩
def h_coreseclaw33_FragmentPuts : Hint := (.s .n (.s (.j ⟨[.d 52 .bool], [0, 2, 3, 4, 5, 7]⟩ false .n (.c (.s .n .n) .n)) (.s .n (.s .n (.j ⟨[.d 14 (.sl P_api_Partial), .b 13 66 P_coresecmake_Deck], [3, 4, 5, 7, 13]⟩ false (.s .n (.c .n .n)) (.s .n (.s (.s .n (.b (.l .g ⟨[.d 14 (.sl P_api_Partial), .d 17 (.int .i64), .d 18 (.int .i64), .b 13 66 P_coresecmake_Deck], [3, 4, 5, 7, 13, 15, 16]⟩ (.s (.s .n (.c .n .n)) (.j ⟨[.d 14 (.sl P_api_Partial), .d 17 (.int .i64), .b 13 66 P_coresecmake_Deck], [3, 4, 5, 7, 13, 15, 16, 18]⟩ true (.b (.s .n (.j ⟨[.d 17 (.int .i64), .b 19 25 P_api_Message, .b 13 66 P_coresecmake_Deck], [3, 4, 5, 7, 13, 14, 15, 16, 18, 19]⟩ false (.s .n (.b (.j ⟨[.d 71 .bool], [3, 4, 5, 7, 13, 14, 15, 16, 17, 18, 19, 70]⟩ false (.s .n (.c .n (.s .n (.c .n .n)))) (.c (.s .n .n) (.s .n (.c .n (.s .n (.c .n .n)))))))) (.s .n (.j ⟨[.d 20 (.int .i64), .d 21 (.int .i64), .b 13 66 P_coresecmake_Deck], [3, 4, 5, 7, 13, 14, 15, 16, 17, 18, 19]⟩ false (.s .n (.c .n .n)) (.s .n (.s .n (.s (.j ⟨[.d 156 .bool], [3, 4, 5, 7, 13, 14, 15, 16, 17, 18, 19, 20, 21, 22, 25]⟩ false .n (.c (.s .n .n) .n)) (.s .n (.s .n (.s (.j ⟨[.d 196 .bool], [3, 4, 5, 7, 13, 14, 15, 16, 17, 18, 19, 20, 21, 22, 25, 31, 35]⟩ false .n (.c (.s .n .n) .n)) (.s (.s .n (.b (.l (.a 200 199) ⟨[.b 31 25 P_api_Message, .b 35 25 P_api_Message], [3, 4, 5, 7, 13, 14, 15, 16, 17, 18, 19, 20, 21, 22, 25, 31, 35, 198, 199]⟩ (.s .n (.s (.c .n .n) (.s (.b (.s .n (.s .n (.s .n (.j ⟨[.d 249 .bool], [3, 4, 5, 7, 13, 14, 15, 16, 17, 18, 19, 20, 21, 22, 25, 31, 35, 198, 199, 200]⟩ false .n (.c (.s .n .n) .n)))))) .n)))))) (.s .n (.c .n .n)))))))))))))) .n))))) (.s .n .n))))))))

def con_coreseclaw33_FragmentPuts : Con Try.prog := ⟨6, [.d (.sl P_api_Partial), .d P_api_Message, .d (.sl (.int .i64)), .d (.int .i64), .d (.int .i64), .d (.int .i64)], [.d .bool], ⟨Try.f6, Try.func6, by kernel_rfl, by kernel_rfl⟩, m_coreseclaw33_FragmentPuts, fun a r h => mkM_ok (T := t_coreseclaw33_FragmentPuts) (N := 255) (own := []) (rng := [199]) (c := (codeOf Try.f6)) (h := h_coreseclaw33_FragmentPuts) (qs := [.tmp 12]) kMix Try.func6 (by kernel_rfl) (by kernel_rfl) (by kernel_rfl) (by kernel_rfl) a r (Eq.trans (by kernel_rfl) h)⟩
end
end Go.Proofs.Ytdgpkkfkloapbaa
