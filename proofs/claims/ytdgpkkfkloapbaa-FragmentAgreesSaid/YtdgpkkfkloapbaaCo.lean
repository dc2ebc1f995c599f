/-
  The functions compute their models: what the evaluator gives is the model, by the kernel. No condition.
-/
import Derived.Test.YtdgpkkfkloapbaaMo
namespace Go.Proofs.Ytdgpkkfkloapbaa
open Go.Gk Go.RowKit
noncomputable section
set_option maxRecDepth 100000
def t_coresecmake2_Small : Tab Try.prog := ⟨tes, ses, fes, bes, [], [], fds, []⟩
def h_coresecmake2_Small : Hint := (.s .n (.s .n .n))

def con_coresecmake2_Small : Con Try.prog := ⟨38, [.d (.sl (.int .u8))], [.d .bool], ⟨Try.f38, Try.func38, by kernel_rfl, by kernel_rfl⟩, m_coresecmake2_Small, fun a r h => mkM_ok (T := t_coresecmake2_Small) (N := 6) (own := []) (rng := []) (c := (codeOf Try.f38)) (h := h_coresecmake2_Small) (qs := [.tmp 2]) kMix Try.func38 (by kernel_rfl) (by kernel_rfl) (by kernel_rfl) (by kernel_rfl) a r (Eq.trans (by kernel_rfl) h)⟩
def t_coresecmake2_Message : Tab Try.prog := ⟨tes, ses, fes, bes, [con_coresecmake2_Small], [], fds, []⟩
def h_coresecmake2_Message : Hint := (.s .n (.s (.s .n (.b (.l (.a 8 7) ⟨[], [1, 6, 7]⟩ (.s .n (.s (.c .n .n) (.s (.b (.s .n (.s .n (.c (.s .n .n) .n)))) .n)))))) (.s .n .n)))

def con_coresecmake2_Message : Con Try.prog := ⟨7, [.d P_api_Message], [.d .bool], ⟨Try.f7, Try.func7, by kernel_rfl, by kernel_rfl⟩, m_coresecmake2_Message, fun a r h => mkM_ok (T := t_coresecmake2_Message) (N := 31) (own := []) (rng := [7]) (c := (codeOf Try.f7)) (h := h_coresecmake2_Message) (qs := [.tmp 2]) kMix Try.func7 (by kernel_rfl) (by kernel_rfl) (by kernel_rfl) (by kernel_rfl) a r (Eq.trans (by kernel_rfl) h)⟩
def t_coresecmake2_All : Tab Try.prog := ⟨tes, ses, fes, bes, [con_coresecmake2_Small], [], fds, []⟩
def h_coresecmake2_All : Hint := (.s .n (.s (.s .n (.b (.l (.a 7 6) ⟨[], [0, 5, 6]⟩ (.s .n (.s (.c .n .n) (.s (.b (.s .n (.s .n (.c (.s .n .n) .n)))) .n)))))) (.s .n .n)))

def con_coresecmake2_All : Con Try.prog := ⟨8, [.d (.sl (.sl (.int .u8)))], [.d .bool], ⟨Try.f8, Try.func8, by kernel_rfl, by kernel_rfl⟩, m_coresecmake2_All, fun a r h => mkM_ok (T := t_coresecmake2_All) (N := 18) (own := []) (rng := [6]) (c := (codeOf Try.f8)) (h := h_coresecmake2_All) (qs := [.tmp 2]) kMix Try.func8 (by kernel_rfl) (by kernel_rfl) (by kernel_rfl) (by kernel_rfl) a r (Eq.trans (by kernel_rfl) h)⟩
def t_fragment_numbered : Tab Try.prog := ⟨tes, ses, fes, bes, [], [], fds, []⟩
def h_fragment_numbered : Hint := (.s .n (.s .n .n))

def con_fragment_numbered : Con Try.prog := ⟨52, [.d (.int .i64)], [.d .bool], ⟨Try.f52, Try.func52, by kernel_rfl, by kernel_rfl⟩, m_fragment_numbered, fun a r h => mkM_ok (T := t_fragment_numbered) (N := 9) (own := []) (rng := []) (c := (codeOf Try.f52)) (h := h_fragment_numbered) (qs := [.tmp 2]) kMix Try.func52 (by kernel_rfl) (by kernel_rfl) (by kernel_rfl) (by kernel_rfl) a r (Eq.trans (by kernel_rfl) h)⟩
theorem kUnd_22 : Try.prog.underlying 22 = some (.slice 5) := by kernel_rfl
theorem kSl_22 : TySl Try.prog 22 5 1 1 (.int .u8 0) := ⟨by kernel_rfl, info_of (by kernel_rfl), by kernel_rfl, by decide⟩
theorem kZero_5 : TyZero Try.prog 5 (.int .u8 0) := fun w => by kernel_rfl
theorem c_bytes_Clone {lab : Lab} {w : World} {a0 : List UInt8} {r : List UInt8} (hm : m_bytes_Clone a0 = some r) (t : Top lab w) {oa : Option Addr} {c : Nat} (s : SL Rep.u8 lab w oa c a0) :
    Calls Try.prog 72 [.slice oa a0.length c].toArray w (fun e w' => ∃ (oa' : Option Addr) (c' : Nat), e = .returned (.slice oa' r.length c') ∧ Ste lab 0 w lab w' ∧ SL Rep.u8 lab w' oa' c' r ∧ True) := by
  have hm' : bnd (app ([] : List UInt8) a0) some = some r := by unfold m_bytes_Clone at hm; rw [hm]; rfl
  refine enter Try.func72 rfl 8 rfl rfl ?_
  refine CW.sub (G := [(0, .slice oa a0.length c)]) ⟨rfl, trivial⟩ ?_
  refine CW.seq ?_
  refine CW.region ?_
  refine LW.assign wn rfl rfl ?_
  refine LW.nil ?_
  refine EW.seq_n ?_
  refine CW.seq ?_
  refine CW.seq ?_
  refine CW.region ?_
  refine LW.move wn rfl rfl ?_
  refine LW.eqnil kUnd_22 wn rfl rfl rfl ?_
  refine LW.nil ?_
  refine EW.seq_n ?_
  refine CW.cond (b := oa.isNone) rfl (fun hb => ?_) (fun hb => ?_)
  · cases oa with
    | some _ => cases hb
    | none =>
      have h0 : a0 = [] := (SL.flat' s).1 rfl
      subst h0
      have hr : r = [] := by simp [app, bnd, LIM] at hm'; exact hm'
      subst hr
      refine CW.seq ?_
      refine CW.region ?_
      refine LW.assign wn rfl rfl ?_
      refine LW.nil ?_
      refine EW.seq_n ?_
      refine CW.ret ?_
      refine EW.seq_r ?_
      exact EW.ret1 rfl rfl ⟨none, 0, rfl, ⟨rfl, rfl, rfl, Nat.le_refl _, fun _ _ _ => rfl, fun _ _ => rfl, t⟩, SL.nil, trivial⟩
  · refine CW.skip ?_
    refine EW.seq_n ?_
    refine CW.seq ?_
    refine CW.region ?_
    have cx := Cx.start t
    replace s := s.keep Keeps.lin
    refine LW.buildOwn (k := 2) (ρ := Rep.u8) (vs := []) (css := []) (xs := []) rfl kSl_22 kZero_5 (by kernel_rfl) rfl rfl trivial cx.top wn rfl ?_
    intro oa1 c1 lab1 w1 e1 o1
    replace cx := cx.step e1 rfl; replace s := s.step e1
    refine LW.move wn rfl rfl ?_
    refine LW.append (ρ := Rep.u8) (xs := []) (ys := a0) hm' o1 (SL.flat' s) cx.top rfl kSl_22 rfl wn rfl rfl rfl ?_
    intro zs oa2 c2 lab2 w2 hz e2 o2
    cases hz
    replace cx := cx.step e2 rfl
    refine LW.assign wn rfl rfl ?_
    refine LW.nil ?_
    refine EW.seq_n ?_
    refine CW.ret ?_
    exact EW.ret1 rfl rfl ⟨_, _, rfl, cx.ste t, o2.sl (cx.keeps t) (cx.own0 t rfl), trivial⟩
theorem co_bytes_Clone {lab : Lab} {w : World} {a0 : List UInt8} {r : List UInt8} {k : Nat} (hm : m_bytes_Clone a0 = some r) (t : Top lab w) {oa : Option Addr} {c : Nat} (s : SL Rep.u8 lab w oa c a0) :
    Calls Try.prog 72 [.slice oa a0.length c].toArray w (fun e w' => ∃ (lab' : Lab) (oa' : Option Addr) (c' : Nat), e = .returned (.slice oa' r.length c') ∧ Ste lab 0 w lab' w' ∧ Own Rep.u8 lab' w' k 5 oa' c' r ∧ True) := by
  have hm' : bnd (app ([] : List UInt8) a0) some = some r := by unfold m_bytes_Clone at hm; rw [hm]; rfl
  refine enter Try.func72 rfl 8 rfl rfl ?_
  refine CW.sub (G := [(0, .slice oa a0.length c)]) ⟨rfl, trivial⟩ ?_
  refine CW.seq ?_
  refine CW.region ?_
  refine LW.assign wn rfl rfl ?_
  refine LW.nil ?_
  refine EW.seq_n ?_
  refine CW.seq ?_
  refine CW.seq ?_
  refine CW.region ?_
  refine LW.move wn rfl rfl ?_
  refine LW.eqnil kUnd_22 wn rfl rfl rfl ?_
  refine LW.nil ?_
  refine EW.seq_n ?_
  refine CW.cond (b := oa.isNone) rfl (fun hb => ?_) (fun hb => ?_)
  · cases oa with
    | some _ => cases hb
    | none =>
      have h0 : a0 = [] := (SL.flat' s).1 rfl
      subst h0
      have hr : r = [] := by simp [app, bnd, LIM] at hm'; exact hm'
      subst hr
      refine CW.seq ?_
      refine CW.region ?_
      refine LW.assign wn rfl rfl ?_
      refine LW.nil ?_
      refine EW.seq_n ?_
      refine CW.ret ?_
      refine EW.seq_r ?_
      exact EW.ret1 rfl rfl ⟨lab, none, 0, rfl, ⟨rfl, rfl, rfl, Nat.le_refl _, fun _ _ _ => rfl, fun _ _ => rfl, t⟩, Own.nil, trivial⟩
  · refine CW.skip ?_
    refine EW.seq_n ?_
    refine CW.seq ?_
    refine CW.region ?_
    have cx := Cx.start t
    replace s := s.keep Keeps.lin
    refine LW.buildOwn (k := 2) (ρ := Rep.u8) (vs := []) (css := []) (xs := []) rfl kSl_22 kZero_5 (by kernel_rfl) rfl rfl trivial cx.top wn rfl ?_
    intro oa1 c1 lab1 w1 e1 o1
    replace cx := cx.step e1 rfl; replace s := s.step e1
    refine LW.move wn rfl rfl ?_
    refine LW.append (ρ := Rep.u8) (xs := []) (ys := a0) hm' o1 (SL.flat' s) cx.top rfl kSl_22 rfl wn rfl rfl rfl ?_
    intro zs oa2 c2 lab2 w2 hz e2 o2
    cases hz
    replace cx := cx.step e2 rfl
    refine LW.assign wn rfl rfl ?_
    refine LW.nil ?_
    refine EW.seq_n ?_
    refine CW.ret ?_
    obtain ⟨lab_, ste_, own_⟩ := o2.out cx t rfl k
    exact EW.ret1 rfl rfl ⟨_, _, _, rfl, ste_, own_, trivial⟩

def con_bytes_Clone : Con Try.prog := ⟨72, [.d (.sl (.int .u8))], [.d (.sl (.int .u8))], ⟨Try.f72, Try.func72, by kernel_rfl, by kernel_rfl⟩, m_bytes_Clone, by
  intro a r h k kp gp lab w vs t _ hk hargs
  match vs, hargs with
  | [v], hargs =>
    obtain ⟨hd, _⟩ := hargs
    obtain ⟨oa, c, rfl, s⟩ := Dat.sl hd
    refine (c_bytes_Clone (a0 := a.1) (r := r) h t s).mono ?_
    rintro e w' ⟨oa', c', rfl, hs, s', _⟩
    exact ⟨lab, [_], rfl, hs.stp (.inr rfl), Dat.ofSl (t := .int .u8) s', trivial⟩⟩
def con_bytes_Clone_o : Con Try.prog := ⟨72, [.d (.sl (.int .u8))], [.o 5 (.int .u8)], ⟨Try.f72, Try.func72, by kernel_rfl, by kernel_rfl⟩, m_bytes_Clone, by
  intro a r h k kp gp lab w vs t _ hk hargs
  match vs, hargs with
  | [v], hargs =>
    obtain ⟨hd, _⟩ := hargs
    obtain ⟨oa, c, rfl, s⟩ := Dat.sl hd
    refine (co_bytes_Clone (a0 := a.1) (r := r) (k := k) h t s).mono ?_
    rintro e w' ⟨lab', oa', c', rfl, hs, o, _⟩
    exact ⟨lab', [_], rfl, hs.stp (.inr rfl), ⟨oa', c', rfl, o⟩, trivial⟩⟩

def t_option_All : Tab Try.prog := ⟨tes, ses, fes, bes, [con_bytes_Clone], [], fds, []⟩
def h_option_All : Hint := (.s .n (.s .n (.s (.s .n (.b (.l (.a 11 10) ⟨[.o 5 22 (.sl (.int .u8))], [1, 9, 10]⟩ (.s .n (.s (.c .n .n) (.j ⟨[.o 5 22 (.sl (.int .u8))], [1, 9, 10, 11]⟩ false (.b (.s .n (.s .n (.c .n .n)))) .n)))))) (.s .n .n))))

def con_option_All : Con Try.prog := ⟨55, [.d P_api_Message, .d (.int .i64)], [.d (.sl (.sl (.int .u8)))], ⟨Try.f55, Try.func55, by kernel_rfl, by kernel_rfl⟩, m_option_All, fun a r h => mkM_ok (T := t_option_All) (N := 27) (own := [24]) (rng := [10]) (c := (codeOf Try.f55)) (h := h_option_All) (qs := [.tmp 4]) kMix Try.func55 (by kernel_rfl) (by kernel_rfl) (by kernel_rfl) (by kernel_rfl) a r (Eq.trans (by kernel_rfl) h)⟩
def t_block_sound : Tab Try.prog := ⟨tes, ses, fes, bes, [], [], fds, []⟩
def h_block_sound : Hint := (.s .n (.s .n .n))

def con_block_sound : Con Try.prog := ⟨75, [.d P_api_Block], [.d .bool], ⟨Try.f75, Try.func75, by kernel_rfl, by kernel_rfl⟩, m_block_sound, fun a r h => mkM_ok (T := t_block_sound) (N := 21) (own := []) (rng := []) (c := (codeOf Try.f75)) (h := h_block_sound) (qs := [.tmp 2]) kMix Try.func75 (by kernel_rfl) (by kernel_rfl) (by kernel_rfl) (by kernel_rfl) a r (Eq.trans (by kernel_rfl) h)⟩
def t_block_length : Tab Try.prog := ⟨tes, ses, fes, bes, [], [], fds, []⟩
def h_block_length : Hint := (.s .n (.s .n .n))

def con_block_length : Con Try.prog := ⟨76, [.d (.int .i64)], [.d (.int .i64)], ⟨Try.f76, Try.func76, by kernel_rfl, by kernel_rfl⟩, m_block_length, fun a r h => mkM_ok (T := t_block_length) (N := 5) (own := []) (rng := []) (c := (codeOf Try.f76)) (h := h_block_length) (qs := [.tmp 2]) kMix Try.func76 (by kernel_rfl) (by kernel_rfl) (by kernel_rfl) (by kernel_rfl) a r (Eq.trans (by kernel_rfl) h)⟩
def t_block_Cut : Tab Try.prog := ⟨tes, ses, fes, bes, [con_block_sound, con_block_length, con_bytes_Clone], [], fds, []⟩
def h_block_Cut : Hint := (.s .n (.s (.s .n (.c (.s .n .n) .n)) (.s .n (.s (.s .n (.c (.s .n .n) .n)) (.s .n (.s .n .n))))))

def con_block_Cut : Con Try.prog := ⟨56, [.d (.sl (.int .u8)), .d (.int .i64), .d (.int .i64)], [.d (.sl (.int .u8)), .d .bool, .d (.int .i64)], ⟨Try.f56, Try.func56, by kernel_rfl, by kernel_rfl⟩, m_block_Cut, fun a r h => mkM_ok (T := t_block_Cut) (N := 47) (own := []) (rng := []) (c := (codeOf Try.f56)) (h := h_block_Cut) (qs := [.tmp 6, .tmp 7, .tmp 8]) kMix Try.func56 (by kernel_rfl) (by kernel_rfl) (by kernel_rfl) (by kernel_rfl) a r (Eq.trans (by kernel_rfl) h)⟩
def t_option_FromUint : Tab Try.prog := ⟨tes, ses, fes, bes, [], [], fds, []⟩
def h_option_FromUint : Hint := (.s .n (.s (.s .n (.c (.s .n .n) .n)) (.s .n (.s (.s .n (.b (.l .g ⟨[.o 3 5 (.int .u8), .d 4 (.int .i64)], [0]⟩ (.s (.s .n (.c .n .n)) (.j ⟨[.o 3 5 (.int .u8)], [0, 4]⟩ false (.b (.s .n (.c .n .n))) .n))))) (.s .n .n)))))

def con_option_FromUint : Con Try.prog := ⟨77, [.d (.int .i64)], [.d (.sl (.int .u8))], ⟨Try.f77, Try.func77, by kernel_rfl, by kernel_rfl⟩, m_option_FromUint, fun a r h => mkM_ok (T := t_option_FromUint) (N := 27) (own := [25]) (rng := []) (c := (codeOf Try.f77)) (h := h_option_FromUint) (qs := [.tmp 2]) kMix Try.func77 (by kernel_rfl) (by kernel_rfl) (by kernel_rfl) (by kernel_rfl) a r (Eq.trans (by kernel_rfl) h)⟩
def t_block_Value : Tab Try.prog := ⟨tes, ses, fes, bes, [con_block_sound, con_option_FromUint], [], fds, []⟩
def h_block_Value : Hint := (.s .n (.s (.s .n (.c (.s .n .n) .n)) (.s .n (.j ⟨[.d 4 (.int .i64)], []⟩ false (.s .n (.c .n .n)) (.s .n .n)))))

def con_block_Value : Con Try.prog := ⟨57, [.d P_api_Block], [.d (.sl (.int .u8)), .d (.int .i64)], ⟨Try.f57, Try.func57, by kernel_rfl, by kernel_rfl⟩, m_block_Value, fun a r h => mkM_ok (T := t_block_Value) (N := 20) (own := []) (rng := []) (c := (codeOf Try.f57)) (h := h_block_Value) (qs := [.tmp 2, .tmp 3]) kMix Try.func57 (by kernel_rfl) (by kernel_rfl) (by kernel_rfl) (by kernel_rfl) a r (Eq.trans (by kernel_rfl) h)⟩
def t_option_owned : Tab Try.prog := ⟨tes, ses, fes, bes, [con_bytes_Clone], [15, 32], fds, []⟩
def h_option_owned : Hint := (.s .n (.s .n (.s .n (.s (.s .n (.b (.l (.a 18 17) ⟨[.h 2 25 P_api_Message 4 63 P_api_Option], [2, 4, 16, 17]⟩ (.s .n (.s (.c .n .n) (.s (.b (.s .n .n)) .n)))))) (.s .n .n)))))

def con_option_owned : Con Try.prog := ⟨78, [.d P_api_Message, .d (.sl P_api_Option)], [.d P_api_Message], ⟨Try.f78, Try.func78, by kernel_rfl, by kernel_rfl⟩, m_option_owned, fun a r h => mkM_ok (T := t_option_owned) (N := 35) (own := [31]) (rng := [17]) (c := (codeOf Try.f78)) (h := h_option_owned) (qs := [.cell 4 25]) kMix Try.func78 (by kernel_rfl) (by kernel_rfl) (by kernel_rfl) (by kernel_rfl) a r (Eq.trans (by kernel_rfl) h)⟩
def t_option_Set : Tab Try.prog := ⟨tes, ses, fes, bes, [con_option_owned], [], fds, []⟩
def h_option_Set : Hint := (.s .n (.s .n (.s (.s .n (.b (.l (.a 16 15) ⟨[.o 7 63 P_api_Option, .o 8 63 P_api_Option], [1, 2, 3, 6, 14, 15]⟩ (.s .n (.s (.c .n .n) (.j ⟨[.o 7 63 P_api_Option, .o 8 63 P_api_Option], [1, 2, 3, 6, 14, 15, 16]⟩ false (.b (.s .n (.b (.s .n (.c .n (.s .n (.c .n .n))))))) .n)))))) (.s (.s .n (.b (.l (.a 41 40) ⟨[.o 7 63 P_api_Option], [1, 3, 6, 8, 39, 40]⟩ (.s .n (.s (.c .n .n) (.s (.b (.s .n .n)) .n)))))) (.s .n .n)))))

def con_option_Set : Con Try.prog := ⟨59, [.d P_api_Message, .d (.int .i64), .d (.sl (.sl (.int .u8)))], [.d P_api_Message], ⟨Try.f59, Try.func59, by kernel_rfl, by kernel_rfl⟩, m_option_Set, fun a r h => mkM_ok (T := t_option_Set) (N := 57) (own := [28, 37, 50]) (rng := [15, 40]) (c := (codeOf Try.f59)) (h := h_option_Set) (qs := [.cell 6 25]) kMix Try.func59 (by kernel_rfl) (by kernel_rfl) (by kernel_rfl) (by kernel_rfl) a r (Eq.trans (by kernel_rfl) h)⟩
def t_fragment_copied : Tab Try.prog := ⟨tes, ses, fes, bes, [], [], fds, []⟩
def h_fragment_copied : Hint := (.s .n (.s .n .n))

def con_fragment_copied : Con Try.prog := ⟨48, [.d (.sl (.int .u8))], [.d (.sl (.int .u8))], ⟨Try.f48, Try.func48, by kernel_rfl, by kernel_rfl⟩, m_fragment_copied, fun a r h => mkM_ok (T := t_fragment_copied) (N := 5) (own := []) (rng := []) (c := (codeOf Try.f48)) (h := h_fragment_copied) (qs := [.tmp 2]) kMix Try.func48 (by kernel_rfl) (by kernel_rfl) (by kernel_rfl) (by kernel_rfl) a r (Eq.trans (by kernel_rfl) h)⟩
def t_fragment_copied_o : Tab Try.prog := ⟨tes, ses, fes, bes, [], [], fds, []⟩
def h_fragment_copied_o : Hint := (.s .n (.s .n .n))

def con_fragment_copied_o : Con Try.prog := ⟨48, [.d (.sl (.int .u8))], [.o 5 (.int .u8)], ⟨Try.f48, Try.func48, by kernel_rfl, by kernel_rfl⟩, m_fragment_copied_o, fun a r h => mkM_ok (T := t_fragment_copied_o) (N := 5) (own := [4]) (rng := []) (c := (codeOf Try.f48)) (h := h_fragment_copied_o) (qs := [.tmp 2]) kMix Try.func48 (by kernel_rfl) (by kernel_rfl) (by kernel_rfl) (by kernel_rfl) a r (Eq.trans (by kernel_rfl) h)⟩
def t_fragment_message : Tab Try.prog := ⟨tes, ses, fes, bes, [con_fragment_copied], [15, 33], fds, []⟩
def h_fragment_message : Hint := (.s .n (.s .n (.s .n (.s (.s .n (.b (.l (.a 19 18) ⟨[.h 3 25 P_api_Message 4 63 P_api_Option], [2, 3, 17, 18]⟩ (.s .n (.s (.c .n .n) (.s (.b (.s .n .n)) .n)))))) (.s .n .n)))))

def con_fragment_message : Con Try.prog := ⟨58, [.d P_api_Message], [.d P_api_Message], ⟨Try.f58, Try.func58, by kernel_rfl, by kernel_rfl⟩, m_fragment_message, fun a r h => mkM_ok (T := t_fragment_message) (N := 36) (own := [32]) (rng := [18]) (c := (codeOf Try.f58)) (h := h_fragment_message) (qs := [.cell 2 25]) kMix Try.func58 (by kernel_rfl) (by kernel_rfl) (by kernel_rfl) (by kernel_rfl) a r (Eq.trans (by kernel_rfl) h)⟩
def t_fragment_Cut : Tab Try.prog := ⟨tes, ses, fes, bes, [con_fragment_numbered, con_option_All, con_block_Cut, con_block_Value, con_option_Set, con_fragment_message, con_fragment_copied], [], fds, []⟩
def h_fragment_Cut : Hint := (.s .n (.s (.s .n (.c (.s .n .n) .n)) (.s (.s .n (.c (.s .n .n) .n)) (.s .n (.s (.s .n (.c (.s .n .n) .n)) (.s .n (.s (.s .n (.c (.s .n .n) .n)) (.s .n (.s .n (.s .n .n))))))))))

def con_fragment_Cut : Con Try.prog := ⟨25, [.d P_api_Message, .d (.int .i64), .d (.int .i64), .d (.int .i64)], [.d P_api_Message, .d (.int .i64)], ⟨Try.f25, Try.func25, by kernel_rfl, by kernel_rfl⟩, m_fragment_Cut, fun a r h => mkM_ok (T := t_fragment_Cut) (N := 60) (own := []) (rng := []) (c := (codeOf Try.f25)) (h := h_fragment_Cut) (qs := [.cell 8 25, .tmp 9]) kMix Try.func25 (by kernel_rfl) (by kernel_rfl) (by kernel_rfl) (by kernel_rfl) a r (Eq.trans (by kernel_rfl) h)⟩
def t_coreseclaw33_awake : Tab Try.prog := ⟨tes, ses, fes, bes, [con_fragment_Cut], [], fds, []⟩
def h_coreseclaw33_awake : Hint := (.s .n (.s .n (.s .n (.s .n (.s .n .n)))))

def con_coreseclaw33_awake : Con Try.prog := ⟨9, [], [.d .bool], ⟨Try.f9, Try.func9, by kernel_rfl, by kernel_rfl⟩, m_coreseclaw33_awake, fun a r h => mkM_ok (T := t_coreseclaw33_awake) (N := 62) (own := []) (rng := []) (c := (codeOf Try.f9)) (h := h_coreseclaw33_awake) (qs := [.tmp 0]) kMix Try.func9 (by kernel_rfl) (by kernel_rfl) (by kernel_rfl) (by kernel_rfl) a r (Eq.trans (by kernel_rfl) h)⟩
def t_coresecmake_New : Tab Try.prog := ⟨tes, ses, fes, bes, [], [], fds, []⟩
def h_coresecmake_New : Hint := (.s .n (.s .n .n))

def con_coresecmake_New : Con Try.prog := ⟨10, [.d (.sl (.int .i64))], [.p 66 P_coresecmake_Deck], ⟨Try.f10, Try.func10, by kernel_rfl, by kernel_rfl⟩, m_coresecmake_New, fun a r h => mkM_ok (T := t_coresecmake_New) (N := 6) (own := []) (rng := []) (c := (codeOf Try.f10)) (h := h_coresecmake_New) (qs := [.tmp 2]) kMix Try.func10 (by kernel_rfl) (by kernel_rfl) (by kernel_rfl) (by kernel_rfl) a r (Eq.trans (by kernel_rfl) h)⟩
def t_coresecmake_Mod : Tab Try.prog := ⟨tes, ses, fes, bes, [], [], fds, []⟩
def h_coresecmake_Mod : Hint := (.s .n (.s .n (.j ⟨[.d 5 (.int .i64)], []⟩ false (.s .n (.c .n .n)) (.s .n .n))))

def con_coresecmake_Mod : Con Try.prog := ⟨23, [.d (.int .i64), .d (.int .i64)], [.d (.int .i64)], ⟨Try.f23, Try.func23, by kernel_rfl, by kernel_rfl⟩, m_coresecmake_Mod, fun a r h => mkM_ok (T := t_coresecmake_Mod) (N := 15) (own := []) (rng := []) (c := (codeOf Try.f23)) (h := h_coresecmake_Mod) (qs := [.tmp 4]) kMix Try.func23 (by kernel_rfl) (by kernel_rfl) (by kernel_rfl) (by kernel_rfl) a r (Eq.trans (by kernel_rfl) h)⟩
def t_coresecmake_Deck_Next : Tab Try.prog := ⟨tes, ses, fes, bes, [con_coresecmake_Mod], [], fds, []⟩
def h_coresecmake_Deck_Next : Hint := (.s .n (.s (.s .n (.c (.s .n .n) .n)) (.s .n (.s .n .n))))

def con_coresecmake_Deck_Next : Con Try.prog := ⟨11, [.p 66 P_coresecmake_Deck, .d (.int .i64)], [.d (.int .i64)], ⟨Try.f11, Try.func11, by kernel_rfl, by kernel_rfl⟩, m_coresecmake_Deck_Next, fun a r h => mkM_ok (T := t_coresecmake_Deck_Next) (N := 35) (own := []) (rng := []) (c := (codeOf Try.f11)) (h := h_coresecmake_Deck_Next) (qs := [.tmp 4]) kMix Try.func11 (by kernel_rfl) (by kernel_rfl) (by kernel_rfl) (by kernel_rfl) a r (Eq.trans (by kernel_rfl) h)⟩
def t_coresecmake_Deck_Bytes : Tab Try.prog := ⟨tes, ses, fes, bes, [con_coresecmake_Deck_Next], [], fds, []⟩
def h_coresecmake_Deck_Bytes : Hint := (.s .n (.s .n (.s (.s .n (.b (.l .g ⟨[.o 5 5 (.int .u8), .d 6 (.int .i64), .b 0 66 P_coresecmake_Deck], [0]⟩ (.s (.s .n (.c .n .n)) (.s (.b .n) .n))))) (.s .n .n))))

def con_coresecmake_Deck_Bytes : Con Try.prog := ⟨40, [.p 66 P_coresecmake_Deck, .d (.int .i64)], [.d (.sl (.int .u8))], ⟨Try.f40, Try.func40, by kernel_rfl, by kernel_rfl⟩, m_coresecmake_Deck_Bytes, fun a r h => mkM_ok (T := t_coresecmake_Deck_Bytes) (N := 22) (own := [20]) (rng := []) (c := (codeOf Try.f40)) (h := h_coresecmake_Deck_Bytes) (qs := [.tmp 4]) kMix Try.func40 (by kernel_rfl) (by kernel_rfl) (by kernel_rfl) (by kernel_rfl) a r (Eq.trans (by kernel_rfl) h)⟩
def t_coresecref16_All : Tab Try.prog := ⟨tes, ses, fes, bes, [], [], fds, []⟩
def h_coresecref16_All : Hint := (.s .n (.s .n (.s (.s .n (.b (.l (.a 11 10) ⟨[.o 5 22 (.sl (.int .u8))], [1, 9, 10]⟩ (.s .n (.s (.c .n .n) (.j ⟨[.o 5 22 (.sl (.int .u8))], [1, 9, 10, 11]⟩ false (.b (.s .n (.s .n (.c .n .n)))) .n)))))) (.s .n .n))))

def con_coresecref16_All : Con Try.prog := ⟨67, [.d P_api_Message, .d (.int .i64)], [.d (.sl (.sl (.int .u8)))], ⟨Try.f67, Try.func67, by kernel_rfl, by kernel_rfl⟩, m_coresecref16_All, fun a r h => mkM_ok (T := t_coresecref16_All) (N := 27) (own := [24]) (rng := [10]) (c := (codeOf Try.f67)) (h := h_coresecref16_All) (qs := [.tmp 4]) kMix Try.func67 (by kernel_rfl) (by kernel_rfl) (by kernel_rfl) (by kernel_rfl) a r (Eq.trans (by kernel_rfl) h)⟩
def t_coresecref16_All_o : Tab Try.prog := ⟨tes, ses, fes, bes, [], [], fds, []⟩
def h_coresecref16_All_o : Hint := (.s .n (.s .n (.s (.s .n (.b (.l (.a 11 10) ⟨[.o 5 22 (.sl (.int .u8))], [1, 9, 10]⟩ (.s .n (.s (.c .n .n) (.j ⟨[.o 5 22 (.sl (.int .u8))], [1, 9, 10, 11]⟩ false (.b (.s .n (.s .n (.c .n .n)))) .n)))))) (.s .n .n))))

def con_coresecref16_All_o : Con Try.prog := ⟨67, [.d P_api_Message, .d (.int .i64)], [.o 22 (.sl (.int .u8))], ⟨Try.f67, Try.func67, by kernel_rfl, by kernel_rfl⟩, m_coresecref16_All_o, fun a r h => mkM_ok (T := t_coresecref16_All_o) (N := 27) (own := [24]) (rng := [10]) (c := (codeOf Try.f67)) (h := h_coresecref16_All_o) (qs := [.tmp 4]) kMix Try.func67 (by kernel_rfl) (by kernel_rfl) (by kernel_rfl) (by kernel_rfl) a r (Eq.trans (by kernel_rfl) h)⟩
def t_coresecref16_with : Tab Try.prog := ⟨tes, ses, fes, bes, [], [], fds, []⟩
def h_coresecref16_with : Hint := (.s .n (.s .n (.s .n (.s (.s .n (.b (.l (.a 18 17) ⟨[.o 5 63 P_api_Option], [2, 4, 16, 17]⟩ (.s .n (.s (.c .n .n) (.s (.b (.s .n .n)) .n)))))) (.s .n (.s .n .n))))))

def con_coresecref16_with : Con Try.prog := ⟨39, [.d P_api_Message, .d (.sl P_api_Option)], [.d P_api_Message], ⟨Try.f39, Try.func39, by kernel_rfl, by kernel_rfl⟩, m_coresecref16_with, fun a r h => mkM_ok (T := t_coresecref16_with) (N := 35) (own := [30]) (rng := [17]) (c := (codeOf Try.f39)) (h := h_coresecref16_with) (qs := [.cell 4 25]) kMix Try.func39 (by kernel_rfl) (by kernel_rfl) (by kernel_rfl) (by kernel_rfl) a r (Eq.trans (by kernel_rfl) h)⟩
def t_coresecref16_Set : Tab Try.prog := ⟨tes, ses, fes, bes, [con_coresecref16_with], [], fds, []⟩
def h_coresecref16_Set : Hint := (.s .n (.s .n (.s (.s .n (.b (.l (.a 17 16) ⟨[.o 7 63 P_api_Option], [1, 2, 3, 6, 15, 16]⟩ (.s .n (.s (.c .n .n) (.j ⟨[.o 7 63 P_api_Option], [1, 2, 3, 6, 15, 16, 17]⟩ false (.b (.s .n (.s .n (.c .n .n)))) .n)))))) (.s (.s .n (.b (.l (.a 32 31) ⟨[.o 7 63 P_api_Option], [1, 3, 6, 30, 31]⟩ (.s .n (.s (.c .n .n) (.s (.b (.s .n .n)) .n)))))) (.s (.s .n (.b (.l (.a 46 45) ⟨[.o 7 63 P_api_Option], [1, 3, 6, 44, 45]⟩ (.s .n (.s (.c .n .n) (.j ⟨[.o 7 63 P_api_Option], [1, 3, 6, 44, 45, 46]⟩ false (.b (.s .n (.s .n (.c .n .n)))) .n)))))) (.s .n .n))))))

def con_coresecref16_Set : Con Try.prog := ⟨12, [.d P_api_Message, .d (.int .i64), .d (.sl (.sl (.int .u8)))], [.d P_api_Message], ⟨Try.f12, Try.func12, by kernel_rfl, by kernel_rfl⟩, m_coresecref16_Set, fun a r h => mkM_ok (T := t_coresecref16_Set) (N := 62) (own := [28, 41, 57]) (rng := [16, 31, 45]) (c := (codeOf Try.f12)) (h := h_coresecref16_Set) (qs := [.cell 6 25]) kMix Try.func12 (by kernel_rfl) (by kernel_rfl) (by kernel_rfl) (by kernel_rfl) a r (Eq.trans (by kernel_rfl) h)⟩
def t_coresecmake2_dressed : Tab Try.prog := ⟨tes, ses, fes, bes, [con_coresecmake_Deck_Next, con_coresecref16_All_o, con_coresecmake_Deck_Bytes, con_coresecref16_Set], [], fds, []⟩
def h_coresecmake2_dressed : Hint := (.s .n (.s (.s .n (.b (.l .g ⟨[.d 5 (.int .i64), .b 0 66 P_coresecmake_Deck, .b 3 25 P_api_Message], [0, 3, 4]⟩ (.s (.s .n (.c .n .n)) (.s (.b (.s .n .n)) .n))))) (.s .n .n)))

def con_coresecmake2_dressed : Con Try.prog := ⟨41, [.p 66 P_coresecmake_Deck, .d P_api_Message], [.d P_api_Message], ⟨Try.f41, Try.func41, by kernel_rfl, by kernel_rfl⟩, m_coresecmake2_dressed, fun a r h => mkM_ok (T := t_coresecmake2_dressed) (N := 29) (own := []) (rng := []) (c := (codeOf Try.f41)) (h := h_coresecmake2_dressed) (qs := [.cell 4 25]) kMix Try.func41 (by kernel_rfl) (by kernel_rfl) (by kernel_rfl) (by kernel_rfl) a r (Eq.trans (by kernel_rfl) h)⟩
def t_coresecmake2_Request : Tab Try.prog := ⟨tes, ses, fes, bes, [con_coresecmake_Deck_Next, con_coresecmake_Deck_Bytes, con_coresecmake2_dressed], [], fds, []⟩
def h_coresecmake2_Request : Hint := (.s .n (.s .n (.s .n .n)))

def con_coresecmake2_Request : Con Try.prog := ⟨13, [.p 66 P_coresecmake_Deck], [.d P_api_Message], ⟨Try.f13, Try.func13, by kernel_rfl, by kernel_rfl⟩, m_coresecmake2_Request, fun a r h => mkM_ok (T := t_coresecmake2_Request) (N := 19) (own := []) (rng := []) (c := (codeOf Try.f13)) (h := h_coresecmake2_Request) (qs := [.cell 2 25]) kMix Try.func13 (by kernel_rfl) (by kernel_rfl) (by kernel_rfl) (by kernel_rfl) a r (Eq.trans (by kernel_rfl) h)⟩
def t_coresecref18_valid : Tab Try.prog := ⟨tes, ses, fes, bes, [], [], fds, []⟩
def h_coresecref18_valid : Hint := (.s .n (.s .n .n))

def con_coresecref18_valid : Con Try.prog := ⟨68, [.d P_api_Block], [.d .bool], ⟨Try.f68, Try.func68, by kernel_rfl, by kernel_rfl⟩, m_coresecref18_valid, fun a r h => mkM_ok (T := t_coresecref18_valid) (N := 21) (own := []) (rng := []) (c := (codeOf Try.f68)) (h := h_coresecref18_valid) (qs := [.tmp 2]) kMix Try.func68 (by kernel_rfl) (by kernel_rfl) (by kernel_rfl) (by kernel_rfl) a r (Eq.trans (by kernel_rfl) h)⟩
def t_coresecref16_FromUint : Tab Try.prog := ⟨tes, ses, fes, bes, [], [], fds, []⟩
def h_coresecref16_FromUint : Hint := (.s .n (.s (.s .n (.c (.s .n .n) .n)) (.s .n (.j ⟨[.d 3 (.sl (.int .u8))], []⟩ false (.b (.l .g ⟨[.d 0 (.int .i64), .d 3 (.sl (.int .u8))], []⟩ (.s (.s .n (.c .n .n)) (.s (.b .n) .n)))) (.s .n .n)))))

def con_coresecref16_FromUint : Con Try.prog := ⟨69, [.d (.int .i64)], [.d (.sl (.int .u8))], ⟨Try.f69, Try.func69, by kernel_rfl, by kernel_rfl⟩, m_coresecref16_FromUint, fun a r h => mkM_ok (T := t_coresecref16_FromUint) (N := 20) (own := [16]) (rng := []) (c := (codeOf Try.f69)) (h := h_coresecref16_FromUint) (qs := [.tmp 2]) kMix Try.func69 (by kernel_rfl) (by kernel_rfl) (by kernel_rfl) (by kernel_rfl) a r (Eq.trans (by kernel_rfl) h)⟩
def t_coresecref18_Value : Tab Try.prog := ⟨tes, ses, fes, bes, [con_coresecref18_valid, con_coresecref16_FromUint], [], fds, []⟩
def h_coresecref18_Value : Hint := (.s .n (.s (.s .n (.c (.s .n .n) .n)) (.s .n (.j ⟨[.d 4 (.int .i64)], []⟩ false (.s .n (.c .n .n)) (.s .n .n)))))

def con_coresecref18_Value : Con Try.prog := ⟨42, [.d P_api_Block], [.d (.sl (.int .u8)), .d (.int .i64)], ⟨Try.f42, Try.func42, by kernel_rfl, by kernel_rfl⟩, m_coresecref18_Value, fun a r h => mkM_ok (T := t_coresecref18_Value) (N := 20) (own := []) (rng := []) (c := (codeOf Try.f42)) (h := h_coresecref18_Value) (qs := [.tmp 2, .tmp 3]) kMix Try.func42 (by kernel_rfl) (by kernel_rfl) (by kernel_rfl) (by kernel_rfl) a r (Eq.trans (by kernel_rfl) h)⟩
def t_coresecmake2_Block : Tab Try.prog := ⟨tes, ses, fes, bes, [con_coresecmake_Deck_Next, con_coresecref18_Value], [], fds, []⟩
def h_coresecmake2_Block : Hint := (.s .n (.s .n (.s .n .n)))

def con_coresecmake2_Block : Con Try.prog := ⟨14, [.p 66 P_coresecmake_Deck, .d (.int .i64)], [.d (.sl (.int .u8))], ⟨Try.f14, Try.func14, by kernel_rfl, by kernel_rfl⟩, m_coresecmake2_Block, fun a r h => mkM_ok (T := t_coresecmake2_Block) (N := 19) (own := []) (rng := []) (c := (codeOf Try.f14)) (h := h_coresecmake2_Block) (qs := [.tmp 4]) kMix Try.func14 (by kernel_rfl) (by kernel_rfl) (by kernel_rfl) (by kernel_rfl) a r (Eq.trans (by kernel_rfl) h)⟩
def t_coresecmake2_Response : Tab Try.prog := ⟨tes, ses, fes, bes, [con_coresecmake_Deck_Next, con_coresecmake_Deck_Bytes, con_coresecmake2_dressed], [], fds, []⟩
def h_coresecmake2_Response : Hint := (.s .n (.s .n (.s .n .n)))

def con_coresecmake2_Response : Con Try.prog := ⟨15, [.p 66 P_coresecmake_Deck], [.d P_api_Message], ⟨Try.f15, Try.func15, by kernel_rfl, by kernel_rfl⟩, m_coresecmake2_Response, fun a r h => mkM_ok (T := t_coresecmake2_Response) (N := 21) (own := []) (rng := []) (c := (codeOf Try.f15)) (h := h_coresecmake2_Response) (qs := [.cell 2 25]) kMix Try.func15 (by kernel_rfl) (by kernel_rfl) (by kernel_rfl) (by kernel_rfl) a r (Eq.trans (by kernel_rfl) h)⟩
def t_coresecmake_Some : Tab Try.prog := ⟨tes, ses, fes, bes, [], [], fds, []⟩
def h_coresecmake_Some : Hint := (.s .n (.s .n (.s (.s .n (.b (.l (.n 8 7) ⟨[.o 5 5 (.int .u8)], [0, 7]⟩ (.s .n (.s (.c .n .n) (.s (.b (.s .n .n)) .n)))))) (.s .n .n))))

def con_coresecmake_Some : Con Try.prog := ⟨16, [.d (.int .i64), .d (.int .i64)], [.d (.sl (.int .u8))], ⟨Try.f16, Try.func16, by kernel_rfl, by kernel_rfl⟩, m_coresecmake_Some, fun a r h => mkM_ok (T := t_coresecmake_Some) (N := 28) (own := [25]) (rng := []) (c := (codeOf Try.f16)) (h := h_coresecmake_Some) (qs := [.tmp 4]) kMix Try.func16 (by kernel_rfl) (by kernel_rfl) (by kernel_rfl) (by kernel_rfl) a r (Eq.trans (by kernel_rfl) h)⟩
def t_option_Uint : Tab Try.prog := ⟨tes, ses, fes, bes, [], [], fds, []⟩
def h_option_Uint : Hint := (.s .n (.s .n (.s (.s .n (.b (.l (.a 9 8) ⟨[.d 4 (.int .i64)], [7, 8]⟩ (.s .n (.s (.c .n .n) (.s (.b (.s .n (.s .n (.s .n (.c (.s .n .n) .n))))) .n)))))) (.s .n .n))))

def con_option_Uint : Con Try.prog := ⟨85, [.d (.sl (.int .u8))], [.d (.int .i64), .d (.int .i64)], ⟨Try.f85, Try.func85, by kernel_rfl, by kernel_rfl⟩, m_option_Uint, fun a r h => mkM_ok (T := t_option_Uint) (N := 22) (own := []) (rng := [8]) (c := (codeOf Try.f85)) (h := h_option_Uint) (qs := [.tmp 2, .tmp 3]) kMix Try.func85 (by kernel_rfl) (by kernel_rfl) (by kernel_rfl) (by kernel_rfl) a r (Eq.trans (by kernel_rfl) h)⟩
def t_block_Parse : Tab Try.prog := ⟨tes, ses, fes, bes, [con_option_Uint], [], fds, []⟩
def h_block_Parse : Hint := (.s .n (.s .n (.s (.s .n (.c (.s .n .n) .n)) (.s .n .n))))

def con_block_Parse : Con Try.prog := ⟨70, [.d (.sl (.int .u8))], [.d P_api_Block, .d (.int .i64)], ⟨Try.f70, Try.func70, by kernel_rfl, by kernel_rfl⟩, m_block_Parse, fun a r h => mkM_ok (T := t_block_Parse) (N := 32) (own := []) (rng := []) (c := (codeOf Try.f70)) (h := h_block_Parse) (qs := [.cell 2 72, .tmp 3]) kMix Try.func70 (by kernel_rfl) (by kernel_rfl) (by kernel_rfl) (by kernel_rfl) a r (Eq.trans (by kernel_rfl) h)⟩
def t_fragment_sound : Tab Try.prog := ⟨tes, ses, fes, bes, [con_option_All, con_block_Parse], [], fds, []⟩
def h_fragment_sound : Hint := (.s .n (.s .n (.s (.s .n (.c (.s .n .n) .n)) (.s .n (.s .n .n)))))

def con_fragment_sound : Con Try.prog := ⟨43, [.d P_api_Message, .d (.int .i64)], [.d P_api_Block, .d .bool, .d .bool], ⟨Try.f43, Try.func43, by kernel_rfl, by kernel_rfl⟩, m_fragment_sound, fun a r h => mkM_ok (T := t_fragment_sound) (N := 30) (own := []) (rng := []) (c := (codeOf Try.f43)) (h := h_fragment_sound) (qs := [.cell 4 72, .tmp 5, .tmp 6]) kMix Try.func43 (by kernel_rfl) (by kernel_rfl) (by kernel_rfl) (by kernel_rfl) a r (Eq.trans (by kernel_rfl) h)⟩
def t_fragment_position : Tab Try.prog := ⟨tes, ses, fes, bes, [], [], fds, []⟩
def h_fragment_position : Hint := (.s .n (.s .n .n))

def con_fragment_position : Con Try.prog := ⟨44, [.d P_api_Block], [.d (.int .i64)], ⟨Try.f44, Try.func44, by kernel_rfl, by kernel_rfl⟩, m_fragment_position, fun a r h => mkM_ok (T := t_fragment_position) (N := 10) (own := []) (rng := []) (c := (codeOf Try.f44)) (h := h_fragment_position) (qs := [.tmp 2]) kMix Try.func44 (by kernel_rfl) (by kernel_rfl) (by kernel_rfl) (by kernel_rfl) a r (Eq.trans (by kernel_rfl) h)⟩
def t_fragment_Agree : Tab Try.prog := ⟨tes, ses, fes, bes, [con_fragment_sound, con_fragment_position], [], fds, []⟩
def h_fragment_Agree : Hint := (.s .n (.s .n (.j ⟨[.d 5 (.int .i64), .d 6 (.int .i64)], [3]⟩ false (.s .n (.s .n (.c .n .n))) (.s .n (.s (.b (.s .n (.c (.s .n .n) (.s .n (.c (.s .n .n) (.s .n (.c (.s .n .n) (.s .n (.c (.s .n .n) .n))))))))) (.s (.s .n (.s .n (.c (.s .n .n) .n))) (.s .n .n)))))))

def con_fragment_Agree : Con Try.prog := ⟨17, [.d P_api_Message, .d P_api_Message], [.d (.int .i64)], ⟨Try.f17, Try.func17, by kernel_rfl, by kernel_rfl⟩, m_fragment_Agree, fun a r h => mkM_ok (T := t_fragment_Agree) (N := 78) (own := []) (rng := []) (c := (codeOf Try.f17)) (h := h_fragment_Agree) (qs := [.tmp 4]) kMix Try.func17 (by kernel_rfl) (by kernel_rfl) (by kernel_rfl) (by kernel_rfl) a r (Eq.trans (by kernel_rfl) h)⟩
def t_coresecref16_Uint : Tab Try.prog := ⟨tes, ses, fes, bes, [], [], fds, []⟩
def h_coresecref16_Uint : Hint := (.s .n (.s .n (.s (.s .n (.b (.l (.a 9 8) ⟨[.d 4 (.int .i64)], [7, 8]⟩ (.s .n (.s (.c .n .n) (.s (.b (.s .n (.s .n (.s .n (.c (.s .n .n) .n))))) .n)))))) (.s .n .n))))

def con_coresecref16_Uint : Con Try.prog := ⟨86, [.d (.sl (.int .u8))], [.d (.int .i64), .d (.int .i64)], ⟨Try.f86, Try.func86, by kernel_rfl, by kernel_rfl⟩, m_coresecref16_Uint, fun a r h => mkM_ok (T := t_coresecref16_Uint) (N := 22) (own := []) (rng := [8]) (c := (codeOf Try.f86)) (h := h_coresecref16_Uint) (qs := [.tmp 2, .tmp 3]) kMix Try.func86 (by kernel_rfl) (by kernel_rfl) (by kernel_rfl) (by kernel_rfl) a r (Eq.trans (by kernel_rfl) h)⟩
def t_coresecref18_Parse : Tab Try.prog := ⟨tes, ses, fes, bes, [con_coresecref16_Uint], [], fds, []⟩
def h_coresecref18_Parse : Hint := (.s .n (.s (.s .n (.c (.s .n .n) .n)) (.s .n (.s (.s .n (.c (.s .n .n) .n)) (.s .n .n)))))

def con_coresecref18_Parse : Con Try.prog := ⟨71, [.d (.sl (.int .u8))], [.d P_api_Block, .d (.int .i64)], ⟨Try.f71, Try.func71, by kernel_rfl, by kernel_rfl⟩, m_coresecref18_Parse, fun a r h => mkM_ok (T := t_coresecref18_Parse) (N := 28) (own := []) (rng := []) (c := (codeOf Try.f71)) (h := h_coresecref18_Parse) (qs := [.cell 2 72, .tmp 3]) kMix Try.func71 (by kernel_rfl) (by kernel_rfl) (by kernel_rfl) (by kernel_rfl) a r (Eq.trans (by kernel_rfl) h)⟩
def t_coresecref33_Sound : Tab Try.prog := ⟨tes, ses, fes, bes, [con_coresecref16_All, con_coresecref18_Parse], [], fds, []⟩
def h_coresecref33_Sound : Hint := (.s .n (.s .n (.s (.s .n (.c (.s .n .n) .n)) (.s .n (.s (.s .n (.c (.s .n .n) .n)) (.s .n .n))))))

def con_coresecref33_Sound : Con Try.prog := ⟨45, [.d P_api_Message, .d (.int .i64)], [.d P_api_Block, .d .bool, .d .bool], ⟨Try.f45, Try.func45, by kernel_rfl, by kernel_rfl⟩, m_coresecref33_Sound, fun a r h => mkM_ok (T := t_coresecref33_Sound) (N := 33) (own := []) (rng := []) (c := (codeOf Try.f45)) (h := h_coresecref33_Sound) (qs := [.cell 4 72, .tmp 5, .tmp 6]) kMix Try.func45 (by kernel_rfl) (by kernel_rfl) (by kernel_rfl) (by kernel_rfl) a r (Eq.trans (by kernel_rfl) h)⟩
def t_coresecref33_position : Tab Try.prog := ⟨tes, ses, fes, bes, [], [], fds, []⟩
def h_coresecref33_position : Hint := (.s .n (.s .n .n))

def con_coresecref33_position : Con Try.prog := ⟨46, [.d P_api_Block], [.d (.int .i64)], ⟨Try.f46, Try.func46, by kernel_rfl, by kernel_rfl⟩, m_coresecref33_position, fun a r h => mkM_ok (T := t_coresecref33_position) (N := 10) (own := []) (rng := []) (c := (codeOf Try.f46)) (h := h_coresecref33_position) (qs := [.tmp 2]) kMix Try.func46 (by kernel_rfl) (by kernel_rfl) (by kernel_rfl) (by kernel_rfl) a r (Eq.trans (by kernel_rfl) h)⟩
def t_coresecref33_Agree : Tab Try.prog := ⟨tes, ses, fes, bes, [con_coresecref33_Sound, con_coresecref33_position], [], fds, []⟩
def h_coresecref33_Agree : Hint := (.s .n (.s .n (.j ⟨[.d 5 (.int .i64), .d 6 (.int .i64)], [3]⟩ false (.s .n (.s .n (.c .n .n))) (.s .n (.s .n (.s (.b (.s .n (.c (.s .n .n) (.s .n (.c (.s .n .n) (.s .n (.c (.s .n .n) (.s .n (.c (.s .n .n) (.s .n (.c (.s .n .n) .n))))))))))) (.s .n .n)))))))

def con_coresecref33_Agree : Con Try.prog := ⟨18, [.d P_api_Message, .d P_api_Message], [.d (.int .i64)], ⟨Try.f18, Try.func18, by kernel_rfl, by kernel_rfl⟩, m_coresecref33_Agree, fun a r h => mkM_ok (T := t_coresecref33_Agree) (N := 80) (own := []) (rng := []) (c := (codeOf Try.f18)) (h := h_coresecref33_Agree) (qs := [.tmp 4]) kMix Try.func18 (by kernel_rfl) (by kernel_rfl) (by kernel_rfl) (by kernel_rfl) a r (Eq.trans (by kernel_rfl) h)⟩
def t_option_Get : Tab Try.prog := ⟨tes, ses, fes, bes, [con_bytes_Clone], [], fds, []⟩
def h_option_Get : Hint := (.s .n (.s (.s .n (.b (.l (.a 11 10) ⟨[], [1, 9, 10]⟩ (.s .n (.s (.c .n .n) (.s (.b (.s .n (.s .n (.c (.s .n .n) .n)))) .n)))))) (.s .n .n)))

def con_option_Get : Con Try.prog := ⟨47, [.d P_api_Message, .d (.int .i64)], [.d (.sl (.int .u8)), .d .bool], ⟨Try.f47, Try.func47, by kernel_rfl, by kernel_rfl⟩, m_option_Get, fun a r h => mkM_ok (T := t_option_Get) (N := 23) (own := []) (rng := [10]) (c := (codeOf Try.f47)) (h := h_option_Get) (qs := [.tmp 4, .tmp 5]) kMix Try.func47 (by kernel_rfl) (by kernel_rfl) (by kernel_rfl) (by kernel_rfl) a r (Eq.trans (by kernel_rfl) h)⟩
def t_fragment_Collect : Tab Try.prog := ⟨tes, ses, fes, bes, [con_fragment_Agree, con_fragment_sound, con_fragment_position, con_option_Get, con_fragment_copied_o], [], fds, []⟩
def h_fragment_Collect : Hint := (.s .n (.s (.s .n (.s .n (.c (.s .n .n) .n))) (.s .n (.s (.s .n (.c (.s .n .n) .n)) (.s .n (.s (.s .n (.c (.s .n .n) .n)) (.s (.s .n (.c (.s .n .n) .n)) (.s .n .n))))))))

def con_fragment_Collect : Con Try.prog := ⟨19, [.d (.sl (.int .u8)), .d (.sl (.int .u8)), .d P_api_Message, .d P_api_Message], [.d (.sl (.int .u8)), .d (.sl (.int .u8)), .d .bool, .d (.int .i64)], ⟨Try.f19, Try.func19, by kernel_rfl, by kernel_rfl⟩, m_fragment_Collect, fun a r h => mkM_ok (T := t_fragment_Collect) (N := 83) (own := []) (rng := []) (c := (codeOf Try.f19)) (h := h_fragment_Collect) (qs := [.tmp 8, .tmp 9, .tmp 10, .tmp 11]) kMix Try.func19 (by kernel_rfl) (by kernel_rfl) (by kernel_rfl) (by kernel_rfl) a r (Eq.trans (by kernel_rfl) h)⟩
def t_coresecref16_Get : Tab Try.prog := ⟨tes, ses, fes, bes, [con_coresecref16_All], [], fds, []⟩
def h_coresecref16_Get : Hint := (.s .n (.s .n (.s (.s .n (.c (.s .n .n) .n)) (.s .n .n))))

def con_coresecref16_Get : Con Try.prog := ⟨49, [.d P_api_Message, .d (.int .i64)], [.d (.sl (.int .u8)), .d .bool], ⟨Try.f49, Try.func49, by kernel_rfl, by kernel_rfl⟩, m_coresecref16_Get, fun a r h => mkM_ok (T := t_coresecref16_Get) (N := 16) (own := []) (rng := []) (c := (codeOf Try.f49)) (h := h_coresecref16_Get) (qs := [.tmp 4, .tmp 5]) kMix Try.func49 (by kernel_rfl) (by kernel_rfl) (by kernel_rfl) (by kernel_rfl) a r (Eq.trans (by kernel_rfl) h)⟩
def t_coresecref01_Compare : Tab Try.prog := ⟨tes, ses, fes, bes, [], [], fds, []⟩
def h_coresecref01_Compare : Hint := (.s .n (.s (.s .n (.b (.l .g ⟨[.d 5 (.int .i64)], [0, 1]⟩ (.s (.s .n (.c .n .n)) (.s (.b (.s .n (.c (.s (.s .n (.c (.s .n .n) .n)) (.s .n .n)) .n))) .n))))) (.s (.b (.s .n (.c (.s .n .n) (.s .n (.c (.s .n .n) .n))))) (.s .n .n))))

def con_coresecref01_Compare : Con Try.prog := ⟨51, [.d (.sl (.int .u8)), .d (.sl (.int .u8))], [.d (.int .i64)], ⟨Try.f51, Try.func51, by kernel_rfl, by kernel_rfl⟩, m_coresecref01_Compare, fun a r h => mkM_ok (T := t_coresecref01_Compare) (N := 48) (own := []) (rng := []) (c := (codeOf Try.f51)) (h := h_coresecref01_Compare) (qs := [.tmp 4]) kMix Try.func51 (by kernel_rfl) (by kernel_rfl) (by kernel_rfl) (by kernel_rfl) a r (Eq.trans (by kernel_rfl) h)⟩
def t_coresecref26_Equal : Tab Try.prog := ⟨tes, ses, fes, bes, [con_coresecref01_Compare], [], fds, []⟩
def h_coresecref26_Equal : Hint := (.s .n (.s .n .n))

def con_coresecref26_Equal : Con Try.prog := ⟨21, [.d (.sl (.int .u8)), .d (.sl (.int .u8))], [.d .bool], ⟨Try.f21, Try.func21, by kernel_rfl, by kernel_rfl⟩, m_coresecref26_Equal, fun a r h => mkM_ok (T := t_coresecref26_Equal) (N := 16) (own := []) (rng := []) (c := (codeOf Try.f21)) (h := h_coresecref26_Equal) (qs := [.tmp 4]) kMix Try.func21 (by kernel_rfl) (by kernel_rfl) (by kernel_rfl) (by kernel_rfl) a r (Eq.trans (by kernel_rfl) h)⟩
def t_coresecref26_Copy : Tab Try.prog := ⟨tes, ses, fes, bes, [], [], fds, []⟩
def h_coresecref26_Copy : Hint := (.s .n (.s .n .n))

def con_coresecref26_Copy : Con Try.prog := ⟨50, [.d (.sl (.int .u8))], [.d (.sl (.int .u8))], ⟨Try.f50, Try.func50, by kernel_rfl, by kernel_rfl⟩, m_coresecref26_Copy, fun a r h => mkM_ok (T := t_coresecref26_Copy) (N := 5) (own := []) (rng := []) (c := (codeOf Try.f50)) (h := h_coresecref26_Copy) (qs := [.tmp 2]) kMix Try.func50 (by kernel_rfl) (by kernel_rfl) (by kernel_rfl) (by kernel_rfl) a r (Eq.trans (by kernel_rfl) h)⟩
def t_coresecref26_Copy_o : Tab Try.prog := ⟨tes, ses, fes, bes, [], [], fds, []⟩
def h_coresecref26_Copy_o : Hint := (.s .n (.s .n .n))

def con_coresecref26_Copy_o : Con Try.prog := ⟨50, [.d (.sl (.int .u8))], [.o 5 (.int .u8)], ⟨Try.f50, Try.func50, by kernel_rfl, by kernel_rfl⟩, m_coresecref26_Copy_o, fun a r h => mkM_ok (T := t_coresecref26_Copy_o) (N := 5) (own := [4]) (rng := []) (c := (codeOf Try.f50)) (h := h_coresecref26_Copy_o) (qs := [.tmp 2]) kMix Try.func50 (by kernel_rfl) (by kernel_rfl) (by kernel_rfl) (by kernel_rfl) a r (Eq.trans (by kernel_rfl) h)⟩
def t_coresecref33_Collect : Tab Try.prog := ⟨tes, ses, fes, bes, [con_coresecref33_Agree, con_coresecref33_Sound, con_coresecref33_position, con_coresecref16_Get, con_coresecref26_Equal, con_coresecref26_Copy_o], [], fds, []⟩
def h_coresecref33_Collect : Hint := (.s .n (.s (.s .n (.s .n (.c (.s .n .n) .n))) (.s .n (.s (.s .n (.c (.s .n .n) .n)) (.s .n (.s (.s .n (.c (.s .n .n) .n)) (.s (.s .n (.c (.s .n .n) .n)) (.s .n .n))))))))

def con_coresecref33_Collect : Con Try.prog := ⟨20, [.d (.sl (.int .u8)), .d (.sl (.int .u8)), .d P_api_Message, .d P_api_Message], [.d (.sl (.int .u8)), .d (.sl (.int .u8)), .d .bool, .d (.int .i64)], ⟨Try.f20, Try.func20, by kernel_rfl, by kernel_rfl⟩, m_coresecref33_Collect, fun a r h => mkM_ok (T := t_coresecref33_Collect) (N := 82) (own := []) (rng := []) (c := (codeOf Try.f20)) (h := h_coresecref33_Collect) (qs := [.tmp 8, .tmp 9, .tmp 10, .tmp 11]) kMix Try.func20 (by kernel_rfl) (by kernel_rfl) (by kernel_rfl) (by kernel_rfl) a r (Eq.trans (by kernel_rfl) h)⟩
def t_coreseclaw33_FragmentAgrees : Tab Try.prog := ⟨tes, ses, fes, bes, [con_coresecmake2_Message, con_coresecmake2_All, con_coreseclaw33_awake, con_coresecmake_New, con_coresecmake_Deck_Next, con_coresecmake2_Request, con_coresecmake2_Block, con_coresecref16_Set, con_coresecmake2_Response, con_coresecmake_Some, con_fragment_Agree, con_coresecref33_Agree, con_fragment_Collect, con_coresecref33_Collect, con_coresecref26_Equal], [], fds, []⟩
def h_coreseclaw33_FragmentAgrees : Hint := (.s .n (.s (.s .n (.c (.s .n .n) .n)) (.s .n (.s .n (.s .n (.s .n (.s .n (.s .n (.s .n (.s (.s .n (.b (.l (.n 105 104) ⟨[], [3, 4, 6, 14, 15, 103, 104]⟩ (.s .n (.s (.c .n .n) (.s (.b (.s .n (.s .n (.b (.l (.n 115 114) ⟨[], [3, 4, 6, 14, 15, 17, 103, 104, 105, 113, 114]⟩ (.s .n (.s (.c .n .n) (.s (.b (.s .n (.s (.s .n (.c (.s .n .n) .n)) (.s .n (.b (.l (.a 130 129) ⟨[], [3, 4, 6, 14, 15, 17, 19, 103, 104, 105, 113, 114, 115, 128, 129]⟩ (.s .n (.s (.c .n .n) (.s (.b (.s .n (.s .n (.b (.l (.a 138 137) ⟨[], [3, 4, 6, 14, 15, 17, 19, 21, 103, 104, 105, 113, 114, 115, 128, 129, 130, 136, 137]⟩ (.s .n (.s (.c .n .n) (.s (.b (.s .n (.s .n (.s .n (.s .n (.c (.s .n .n) .n)))))) .n)))))))) .n))))))))) .n)))))))) .n)))))) (.s .n .n)))))))))))

def con_coreseclaw33_FragmentAgrees : Con Try.prog := ⟨3, [.d P_api_Message, .d P_api_Message, .d (.sl (.int .i64)), .d (.sl (.int .u8)), .d (.sl (.int .u8))], [.d .bool], ⟨Try.f3, Try.func3, by kernel_rfl, by kernel_rfl⟩, m_coreseclaw33_FragmentAgrees, fun a r h => mkM_ok (T := t_coreseclaw33_FragmentAgrees) (N := 187) (own := []) (rng := [129, 137]) (c := (codeOf Try.f3)) (h := h_coreseclaw33_FragmentAgrees) (qs := [.tmp 10]) kMix Try.func3 (by kernel_rfl) (by kernel_rfl) (by kernel_rfl) (by kernel_rfl) a r (Eq.trans (by kernel_rfl) h)⟩
end
end Go.Proofs.Ytdgpkkfkloapbaa
