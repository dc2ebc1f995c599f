/-
  The functions compute their models: what the evaluator gives is the model, by the kernel. No condition.
-/
import Derived.Test.YtdiidghfmpobaaaMo
namespace Go.Proofs.Ytdiidghfmpobaaa
open Go.Gk Go.RowKit
noncomputable section
set_option maxRecDepth 100000
def t_coresecmake_Few : Tab Try.prog := ⟨tes, ses, fes, bes, [], [], fds, [], qes, ges, mes⟩
def h_coresecmake_Few : Hint := (.s .n (.s .n .n))

def con_coresecmake_Few : Con Try.prog := ⟨36, [.d (.sl (.int .i64))], [.d .bool], ⟨Try.f36, Try.func36, by kernel_rfl, by kernel_rfl⟩, m_coresecmake_Few, fun a r h => mkM_ok (T := t_coresecmake_Few) (N := 6) (own := []) (rng := []) (c := (codeOf Try.f36)) (h := h_coresecmake_Few) (qs := [.tmp 2]) kMix Try.func36 (by kernel_rfl) (by kernel_rfl) (by kernel_rfl) (by kernel_rfl) a r (Eq.trans (by kernel_rfl) h)⟩
def t_cache_keyed : Tab Try.prog := ⟨tes, ses, fes, bes, [], [], fds, [], qes, ges, mes⟩
def h_cache_keyed : Hint := (.s .n (.j ⟨[.d 2 .bool], []⟩ false .n .n))

def con_cache_keyed : Con Try.prog := ⟨45, [.d (.sl (.int .u8))], [.d .bool], ⟨Try.f45, Try.func45, by kernel_rfl, by kernel_rfl⟩, m_cache_keyed, fun a r h => mkM_ok (T := t_cache_keyed) (N := 11) (own := []) (rng := []) (c := (codeOf Try.f45)) (h := h_cache_keyed) (qs := [.tmp 2]) kMix Try.func45 (by kernel_rfl) (by kernel_rfl) (by kernel_rfl) (by kernel_rfl) a r (Eq.trans (by kernel_rfl) h)⟩
def t_bytes_Equal : Tab Try.prog := ⟨tes, ses, fes, bes, [], [], fds, [], qes, ges, mes⟩
def h_bytes_Equal : Hint := (.s .n (.s .n .n))

def con_bytes_Equal : Con Try.prog := ⟨67, [.d (.sl (.int .u8)), .d (.sl (.int .u8))], [.d .bool], ⟨Try.f67, Try.func67, by kernel_rfl, by kernel_rfl⟩, m_bytes_Equal, fun a r h => mkM_ok (T := t_bytes_Equal) (N := 10) (own := []) (rng := []) (c := (codeOf Try.f67)) (h := h_bytes_Equal) (qs := [.tmp 4]) kMix Try.func67 (by kernel_rfl) (by kernel_rfl) (by kernel_rfl) (by kernel_rfl) a r (Eq.trans (by kernel_rfl) h)⟩
def t_cache_find : Tab Try.prog := ⟨tes, ses, fes, bes, [con_bytes_Equal], [], fds, [], qes, ges, mes⟩
def h_cache_find : Hint := (.s .n (.s (.s .n (.b (.l (.a 9 8) ⟨[], [1, 7, 8]⟩ (.s .n (.s (.c .n .n) (.s (.b (.s .n (.s .n (.c (.s .n .n) .n)))) .n)))))) (.s .n .n)))

def con_cache_find : Con Try.prog := ⟨46, [.d (.sl P_api_Cached), .d (.sl (.int .u8))], [.d (.int .i64)], ⟨Try.f46, Try.func46, by kernel_rfl, by kernel_rfl⟩, m_cache_find, fun a r h => mkM_ok (T := t_cache_find) (N := 20) (own := []) (rng := [8]) (c := (codeOf Try.f46)) (h := h_cache_find) (qs := [.tmp 4]) kMix Try.func46 (by kernel_rfl) (by kernel_rfl) (by kernel_rfl) (by kernel_rfl) a r (Eq.trans (by kernel_rfl) h)⟩
def t_coap_sound : Tab Try.prog := ⟨tes, ses, fes, bes, [], [], fds, [], qes, ges, mes⟩
def h_coap_sound : Hint := (.s .n (.s .n (.s (.j ⟨[.d 43 .bool], [1]⟩ false .n (.c (.s .n .n) .n)) (.s (.j ⟨[.d 63 .bool], [1]⟩ false .n (.c (.s .n .n) .n)) (.s .n (.s (.s .n (.b (.l (.a 67 66) ⟨[.d 4 (.int .i64)], [1, 65, 66]⟩ (.s .n (.s (.c .n .n) (.s (.b (.s .n (.s (.j ⟨[.d 85 .bool], [1, 6, 65, 66, 67]⟩ false .n (.c (.s .n .n) .n)) .n))) .n)))))) (.s (.j ⟨[.d 105 .bool], [1]⟩ false .n (.c (.s .n .n) .n)) (.j ⟨[.d 2 .bool], []⟩ false .n .n))))))))

def con_coap_sound : Con Try.prog := ⟨71, [.d P_api_Message], [.d .bool], ⟨Try.f71, Try.func71, by kernel_rfl, by kernel_rfl⟩, m_coap_sound, fun a r h => mkM_ok (T := t_coap_sound) (N := 120) (own := []) (rng := [66]) (c := (codeOf Try.f71)) (h := h_coap_sound) (qs := [.tmp 2]) kMix Try.func71 (by kernel_rfl) (by kernel_rfl) (by kernel_rfl) (by kernel_rfl) a r (Eq.trans (by kernel_rfl) h)⟩
def t_coap_parts : Tab Try.prog := ⟨tes, ses, fes, bes, [], [], fds, [], qes, ges, mes⟩
def h_coap_parts : Hint := (.s .n (.s (.b (.s .n (.c (.s .n .n) (.s .n (.c (.s .n .n) .n))))) (.s .n .n)))

def con_coap_parts : Con Try.prog := ⟨75, [.d (.int .i64)], [.d (.int .u8), .d (.sl (.int .u8))], ⟨Try.f75, Try.func75, by kernel_rfl, by kernel_rfl⟩, m_coap_parts, fun a r h => mkM_ok (T := t_coap_parts) (N := 24) (own := []) (rng := []) (c := (codeOf Try.f75)) (h := h_coap_parts) (qs := [.tmp 2, .tmp 3]) kMix Try.func75 (by kernel_rfl) (by kernel_rfl) (by kernel_rfl) (by kernel_rfl) a r (Eq.trans (by kernel_rfl) h)⟩
def t_coap_encode : Tab Try.prog := ⟨tes, ses, fes, bes, [con_coap_parts], [], fds, [], qes, ges, mes⟩
def h_coap_encode : Hint := (.s .n (.s .n (.s .n (.s .n (.s (.s .n (.b (.l (.a 38 37) ⟨[.o 3 5 (.int .u8), .d 4 (.int .i64)], [1, 36, 37]⟩ (.s .n (.s (.c .n .n) (.s (.b (.s .n (.s .n (.s .n (.s .n .n))))) .n)))))) (.j ⟨[.o 3 5 (.int .u8)], []⟩ false (.s .n (.c .n .n)) (.s .n .n)))))))

def con_coap_encode : Con Try.prog := ⟨72, [.d P_api_Message], [.d (.sl (.int .u8))], ⟨Try.f72, Try.func72, by kernel_rfl, by kernel_rfl⟩, m_coap_encode, fun a r h => mkM_ok (T := t_coap_encode) (N := 85) (own := [30, 34, 63, 65, 67, 70, 80, 83]) (rng := [37]) (c := (codeOf Try.f72)) (h := h_coap_encode) (qs := [.tmp 2]) kMix Try.func72 (by kernel_rfl) (by kernel_rfl) (by kernel_rfl) (by kernel_rfl) a r (Eq.trans (by kernel_rfl) h)⟩
def t_coap_Valid : Tab Try.prog := ⟨tes, ses, fes, bes, [con_coap_sound, con_coap_encode], [], fds, [], qes, ges, mes⟩
def h_coap_Valid : Hint := (.s .n (.j ⟨[.d 2 .bool], []⟩ false .n .n))

def con_coap_Valid : Con Try.prog := ⟨47, [.d P_api_Message], [.d .bool], ⟨Try.f47, Try.func47, by kernel_rfl, by kernel_rfl⟩, m_coap_Valid, fun a r h => mkM_ok (T := t_coap_Valid) (N := 11) (own := []) (rng := []) (c := (codeOf Try.f47)) (h := h_coap_Valid) (qs := [.tmp 2]) kMix Try.func47 (by kernel_rfl) (by kernel_rfl) (by kernel_rfl) (by kernel_rfl) a r (Eq.trans (by kernel_rfl) h)⟩
def t_cache_bare : Tab Try.prog := ⟨tes, ses, fes, bes, [], [], fds, [], qes, ges, mes⟩
def h_cache_bare : Hint := (.s .n (.j ⟨[.d 2 .bool], []⟩ false .n .n))

def con_cache_bare : Con Try.prog := ⟨48, [.d P_api_Message], [.d .bool], ⟨Try.f48, Try.func48, by kernel_rfl, by kernel_rfl⟩, m_cache_bare, fun a r h => mkM_ok (T := t_cache_bare) (N := 17) (own := []) (rng := []) (c := (codeOf Try.f48)) (h := h_cache_bare) (qs := [.tmp 2]) kMix Try.func48 (by kernel_rfl) (by kernel_rfl) (by kernel_rfl) (by kernel_rfl) a r (Eq.trans (by kernel_rfl) h)⟩
def t_coap_Response : Tab Try.prog := ⟨tes, ses, fes, bes, [], [], fds, [], qes, ges, mes⟩
def h_coap_Response : Hint := (.s .n (.j ⟨[.d 2 .bool], []⟩ false .n .n))

def con_coap_Response : Con Try.prog := ⟨49, [.d (.int .i64)], [.d .bool], ⟨Try.f49, Try.func49, by kernel_rfl, by kernel_rfl⟩, m_coap_Response, fun a r h => mkM_ok (T := t_coap_Response) (N := 17) (own := []) (rng := []) (c := (codeOf Try.f49)) (h := h_coap_Response) (qs := [.tmp 2]) kMix Try.func49 (by kernel_rfl) (by kernel_rfl) (by kernel_rfl) (by kernel_rfl) a r (Eq.trans (by kernel_rfl) h)⟩
def t_cache_Valid : Tab Try.prog := ⟨tes, ses, fes, bes, [con_cache_keyed, con_cache_find, con_coap_Valid, con_cache_bare, con_coap_Response], [], fds, [], qes, ges, mes⟩
def h_cache_Valid : Hint := (.s .n (.s (.s .n (.c (.s .n .n) .n)) (.s (.s .n (.b (.l (.a 10 9) ⟨[], [0, 8, 9]⟩ (.s .n (.s (.c .n .n) (.s (.b (.s .n (.s (.j ⟨[.d 37 .bool], [0, 4, 8, 9, 10]⟩ false .n (.c (.s .n .n) .n)) (.j ⟨[.d 54 .bool], [0, 8, 9, 10]⟩ false .n (.c (.s .n .n) .n))))) .n)))))) (.s .n .n))))

def con_cache_Valid : Con Try.prog := ⟨15, [.d (.sl P_api_Cached)], [.d .bool], ⟨Try.f15, Try.func15, by kernel_rfl, by kernel_rfl⟩, m_cache_Valid, fun a r h => mkM_ok (T := t_cache_Valid) (N := 56) (own := []) (rng := [9]) (c := (codeOf Try.f15)) (h := h_cache_Valid) (qs := [.tmp 2]) kMix Try.func15 (by kernel_rfl) (by kernel_rfl) (by kernel_rfl) (by kernel_rfl) a r (Eq.trans (by kernel_rfl) h)⟩
def t_cache_argument : Tab Try.prog := ⟨tes, ses, fes, bes, [con_cache_Valid, con_cache_keyed], [], fds, [], qes, ges, mes⟩
def h_cache_argument : Hint := (.s .n (.s (.j ⟨[.d 22 .bool], []⟩ false .n (.c (.s .n .n) .n)) (.s .n .n)))

def con_cache_argument : Con Try.prog := ⟨60, [.d (.sl P_api_Cached), .d (.sl (.int .u8)), .d (.int .i64)], [.d (.int .i64)], ⟨Try.f60, Try.func60, by kernel_rfl, by kernel_rfl⟩, m_cache_argument, fun a r h => mkM_ok (T := t_cache_argument) (N := 23) (own := []) (rng := []) (c := (codeOf Try.f60)) (h := h_cache_argument) (qs := [.tmp 6]) kMix Try.func60 (by kernel_rfl) (by kernel_rfl) (by kernel_rfl) (by kernel_rfl) a r (Eq.trans (by kernel_rfl) h)⟩
theorem kUnd_23 : Try.prog.underlying 23 = some (.slice 5) := by kernel_rfl
theorem kSl_23 : TySl Try.prog 23 5 1 1 (.int .u8 0) := ⟨by kernel_rfl, info_of (by kernel_rfl), by kernel_rfl, by decide⟩
theorem kZero_5 : TyZero Try.prog 5 (.int .u8 0) := fun w => by kernel_rfl
theorem c_bytes_Clone {lab : Lab} {w : World} {a0 : List UInt8} {r : List UInt8} (hm : m_bytes_Clone a0 = some r) (t : Top lab w) {oa : Option Addr} {c : Nat} (s : SL Rep.u8 lab w oa c a0) :
    Calls Try.prog 68 [.slice oa a0.length c].toArray w (fun e w' => ∃ (oa' : Option Addr) (c' : Nat), e = .returned (.slice oa' r.length c') ∧ Ste lab 0 w lab w' ∧ SL Rep.u8 lab w' oa' c' r ∧ True) := by
  have hm' : bnd (app ([] : List UInt8) a0) some = some r := by unfold m_bytes_Clone at hm; rw [hm]; rfl
  refine enter Try.func68 rfl 8 rfl rfl ?_
  refine CW.sub (G := [(0, .slice oa a0.length c)]) ⟨rfl, trivial⟩ ?_
  refine CW.seq ?_
  refine CW.region ?_
  refine LW.assign wn rfl rfl ?_
  refine LW.nil ?_
  refine EW.seq_n ?_
  refine CW.seq ?_
  refine CW.seq ?_
  refine CW.region ?_
  refine LW.move wn rfl rfl ?_
  refine LW.eqnil kUnd_23 wn rfl rfl rfl ?_
  refine LW.nil ?_
  refine EW.seq_n ?_
  refine CW.cond (b := oa.isNone) rfl (fun hb => ?_) (fun hb => ?_)
  · cases oa with
    | some _ => cases hb
    | none =>
      have h0 : a0 = [] := (SL.flat' s).1 rfl
      subst h0
      have hr : r = [] := by simp [app, bnd, LIM] at hm'; exact hm'
      subst hr
      refine CW.seq ?_
      refine CW.region ?_
      refine LW.assign wn rfl rfl ?_
      refine LW.nil ?_
      refine EW.seq_n ?_
      refine CW.ret ?_
      refine EW.seq_r ?_
      exact EW.ret1 rfl rfl ⟨none, 0, rfl, ⟨rfl, rfl, rfl, Nat.le_refl _, fun _ _ _ => rfl, fun _ _ => rfl, t⟩, SL.nil, trivial⟩
  · refine CW.skip ?_
    refine EW.seq_n ?_
    refine CW.seq ?_
    refine CW.region ?_
    have cx := Cx.start t
    replace s := s.keep Keeps.lin
    refine LW.buildOwn (k := 2) (ρ := Rep.u8) (vs := []) (css := []) (xs := []) rfl kSl_23 kZero_5 (by kernel_rfl) rfl rfl trivial cx.top wn rfl ?_
    intro oa1 c1 lab1 w1 e1 o1
    replace cx := cx.step e1 rfl; replace s := s.step e1
    refine LW.move wn rfl rfl ?_
    refine LW.append (ρ := Rep.u8) (xs := []) (ys := a0) hm' o1 (SL.flat' s) cx.top rfl kSl_23 rfl wn rfl rfl rfl ?_
    intro zs oa2 c2 lab2 w2 hz e2 o2
    cases hz
    replace cx := cx.step e2 rfl
    refine LW.assign wn rfl rfl ?_
    refine LW.nil ?_
    refine EW.seq_n ?_
    refine CW.ret ?_
    exact EW.ret1 rfl rfl ⟨_, _, rfl, cx.ste t, o2.sl (cx.keeps t) (cx.own0 t rfl), trivial⟩
theorem co_bytes_Clone {lab : Lab} {w : World} {a0 : List UInt8} {r : List UInt8} {k : Nat} (hm : m_bytes_Clone a0 = some r) (t : Top lab w) {oa : Option Addr} {c : Nat} (s : SL Rep.u8 lab w oa c a0) :
    Calls Try.prog 68 [.slice oa a0.length c].toArray w (fun e w' => ∃ (lab' : Lab) (oa' : Option Addr) (c' : Nat), e = .returned (.slice oa' r.length c') ∧ Ste lab 0 w lab' w' ∧ Own Rep.u8 lab' w' k 5 oa' c' r ∧ True) := by
  have hm' : bnd (app ([] : List UInt8) a0) some = some r := by unfold m_bytes_Clone at hm; rw [hm]; rfl
  refine enter Try.func68 rfl 8 rfl rfl ?_
  refine CW.sub (G := [(0, .slice oa a0.length c)]) ⟨rfl, trivial⟩ ?_
  refine CW.seq ?_
  refine CW.region ?_
  refine LW.assign wn rfl rfl ?_
  refine LW.nil ?_
  refine EW.seq_n ?_
  refine CW.seq ?_
  refine CW.seq ?_
  refine CW.region ?_
  refine LW.move wn rfl rfl ?_
  refine LW.eqnil kUnd_23 wn rfl rfl rfl ?_
  refine LW.nil ?_
  refine EW.seq_n ?_
  refine CW.cond (b := oa.isNone) rfl (fun hb => ?_) (fun hb => ?_)
  · cases oa with
    | some _ => cases hb
    | none =>
      have h0 : a0 = [] := (SL.flat' s).1 rfl
      subst h0
      have hr : r = [] := by simp [app, bnd, LIM] at hm'; exact hm'
      subst hr
      refine CW.seq ?_
      refine CW.region ?_
      refine LW.assign wn rfl rfl ?_
      refine LW.nil ?_
      refine EW.seq_n ?_
      refine CW.ret ?_
      refine EW.seq_r ?_
      exact EW.ret1 rfl rfl ⟨lab, none, 0, rfl, ⟨rfl, rfl, rfl, Nat.le_refl _, fun _ _ _ => rfl, fun _ _ => rfl, t⟩, Own.nil, trivial⟩
  · refine CW.skip ?_
    refine EW.seq_n ?_
    refine CW.seq ?_
    refine CW.region ?_
    have cx := Cx.start t
    replace s := s.keep Keeps.lin
    refine LW.buildOwn (k := 2) (ρ := Rep.u8) (vs := []) (css := []) (xs := []) rfl kSl_23 kZero_5 (by kernel_rfl) rfl rfl trivial cx.top wn rfl ?_
    intro oa1 c1 lab1 w1 e1 o1
    replace cx := cx.step e1 rfl; replace s := s.step e1
    refine LW.move wn rfl rfl ?_
    refine LW.append (ρ := Rep.u8) (xs := []) (ys := a0) hm' o1 (SL.flat' s) cx.top rfl kSl_23 rfl wn rfl rfl rfl ?_
    intro zs oa2 c2 lab2 w2 hz e2 o2
    cases hz
    replace cx := cx.step e2 rfl
    refine LW.assign wn rfl rfl ?_
    refine LW.nil ?_
    refine EW.seq_n ?_
    refine CW.ret ?_
    obtain ⟨lab_, ste_, own_⟩ := o2.out cx t rfl k
    exact EW.ret1 rfl rfl ⟨_, _, _, rfl, ste_, own_, trivial⟩

def con_bytes_Clone : Con Try.prog := ⟨68, [.d (.sl (.int .u8))], [.d (.sl (.int .u8))], ⟨Try.f68, Try.func68, by kernel_rfl, by kernel_rfl⟩, m_bytes_Clone, by
  intro a r h k kp gp lab w vs t _ _ hk hargs
  match vs, hargs with
  | [v], hargs =>
    obtain ⟨hd, _⟩ := hargs
    obtain ⟨oa, c, rfl, s⟩ := Dat.sl hd
    refine (c_bytes_Clone (a0 := a.1) (r := r) h t s).mono ?_
    rintro e w' ⟨oa', c', rfl, hs, s', _⟩
    exact ⟨lab, [_], rfl, hs.stp (.inr rfl), Dat.ofSl (t := .int .u8) s', trivial⟩⟩
def con_bytes_Clone_o : Con Try.prog := ⟨68, [.d (.sl (.int .u8))], [.o 5 (.int .u8)], ⟨Try.f68, Try.func68, by kernel_rfl, by kernel_rfl⟩, m_bytes_Clone, by
  intro a r h k kp gp lab w vs t _ _ hk hargs
  match vs, hargs with
  | [v], hargs =>
    obtain ⟨hd, _⟩ := hargs
    obtain ⟨oa, c, rfl, s⟩ := Dat.sl hd
    refine (co_bytes_Clone (a0 := a.1) (r := r) (k := k) h t s).mono ?_
    rintro e w' ⟨lab', oa', c', rfl, hs, o, _⟩
    exact ⟨lab', [_], rfl, hs.stp (.inr rfl), ⟨oa', c', rfl, o⟩, trivial⟩⟩

def t_option_Get : Tab Try.prog := ⟨tes, ses, fes, bes, [con_bytes_Clone], [], fds, [], qes, ges, mes⟩
def h_option_Get : Hint := (.s .n (.s (.s .n (.b (.l (.a 11 10) ⟨[], [1, 9, 10]⟩ (.s .n (.s (.c .n .n) (.s (.b (.s .n (.s .n (.c (.s .n .n) .n)))) .n)))))) (.s .n .n)))

def con_option_Get : Con Try.prog := ⟨39, [.d P_api_Message, .d (.int .i64)], [.d (.sl (.int .u8)), .d .bool], ⟨Try.f39, Try.func39, by kernel_rfl, by kernel_rfl⟩, m_option_Get, fun a r h => mkM_ok (T := t_option_Get) (N := 23) (own := []) (rng := [10]) (c := (codeOf Try.f39)) (h := h_option_Get) (qs := [.tmp 4, .tmp 5]) kMix Try.func39 (by kernel_rfl) (by kernel_rfl) (by kernel_rfl) (by kernel_rfl) a r (Eq.trans (by kernel_rfl) h)⟩
def t_option_Uint : Tab Try.prog := ⟨tes, ses, fes, bes, [], [], fds, [], qes, ges, mes⟩
def h_option_Uint : Hint := (.s .n (.s .n (.s (.s .n (.b (.l (.a 9 8) ⟨[.d 4 (.int .i64)], [7, 8]⟩ (.s .n (.s (.c .n .n) (.s (.b (.s .n (.s .n (.s .n (.c (.s .n .n) .n))))) .n)))))) (.s .n .n))))

def con_option_Uint : Con Try.prog := ⟨53, [.d (.sl (.int .u8))], [.d (.int .i64), .d (.int .i64)], ⟨Try.f53, Try.func53, by kernel_rfl, by kernel_rfl⟩, m_option_Uint, fun a r h => mkM_ok (T := t_option_Uint) (N := 22) (own := []) (rng := [8]) (c := (codeOf Try.f53)) (h := h_option_Uint) (qs := [.tmp 2, .tmp 3]) kMix Try.func53 (by kernel_rfl) (by kernel_rfl) (by kernel_rfl) (by kernel_rfl) a r (Eq.trans (by kernel_rfl) h)⟩
def t_cache_MaxAge : Tab Try.prog := ⟨tes, ses, fes, bes, [con_option_Get, con_option_Uint], [], fds, [], qes, ges, mes⟩
def h_cache_MaxAge : Hint := (.s .n (.s .n (.s (.b (.s .n (.c (.s .n .n) (.s .n (.c (.s .n .n) .n))))) (.s .n (.s .n .n)))))

def con_cache_MaxAge : Con Try.prog := ⟨18, [.d P_api_Message], [.d (.int .i64)], ⟨Try.f18, Try.func18, by kernel_rfl, by kernel_rfl⟩, m_cache_MaxAge, fun a r h => mkM_ok (T := t_cache_MaxAge) (N := 25) (own := []) (rng := []) (c := (codeOf Try.f18)) (h := h_cache_MaxAge) (qs := [.tmp 2]) kMix Try.func18 (by kernel_rfl) (by kernel_rfl) (by kernel_rfl) (by kernel_rfl) a r (Eq.trans (by kernel_rfl) h)⟩
def t_option_All : Tab Try.prog := ⟨tes, ses, fes, bes, [con_bytes_Clone], [], fds, [], qes, ges, mes⟩
def h_option_All : Hint := (.s .n (.s .n (.s (.s .n (.b (.l (.a 11 10) ⟨[.o 5 23 (.sl (.int .u8))], [1, 9, 10]⟩ (.s .n (.s (.c .n .n) (.j ⟨[.o 5 23 (.sl (.int .u8))], [1, 9, 10, 11]⟩ false (.b (.s .n (.s .n (.c .n .n)))) .n)))))) (.s .n .n))))

def con_option_All : Con Try.prog := ⟨56, [.d P_api_Message, .d (.int .i64)], [.d (.sl (.sl (.int .u8)))], ⟨Try.f56, Try.func56, by kernel_rfl, by kernel_rfl⟩, m_option_All, fun a r h => mkM_ok (T := t_option_All) (N := 27) (own := [24]) (rng := [10]) (c := (codeOf Try.f56)) (h := h_option_All) (qs := [.tmp 4]) kMix Try.func56 (by kernel_rfl) (by kernel_rfl) (by kernel_rfl) (by kernel_rfl) a r (Eq.trans (by kernel_rfl) h)⟩
def t_block_Parse : Tab Try.prog := ⟨tes, ses, fes, bes, [con_option_Uint], [], fds, [], qes, ges, mes⟩
def h_block_Parse : Hint := (.s .n (.s .n (.s (.j ⟨[.d 22 .bool], [2, 4]⟩ false .n (.c (.s .n .n) .n)) (.s .n .n))))

def con_block_Parse : Con Try.prog := ⟨57, [.d (.sl (.int .u8))], [.d P_api_Block, .d (.int .i64)], ⟨Try.f57, Try.func57, by kernel_rfl, by kernel_rfl⟩, m_block_Parse, fun a r h => mkM_ok (T := t_block_Parse) (N := 32) (own := []) (rng := []) (c := (codeOf Try.f57)) (h := h_block_Parse) (qs := [.cell 2 74, .tmp 3]) kMix Try.func57 (by kernel_rfl) (by kernel_rfl) (by kernel_rfl) (by kernel_rfl) a r (Eq.trans (by kernel_rfl) h)⟩
def t_cache_Storable : Tab Try.prog := ⟨tes, ses, fes, bes, [con_coap_Valid, con_cache_MaxAge, con_option_Get, con_option_All, con_block_Parse], [], fds, [], qes, ges, mes⟩
def h_cache_Storable : Hint := (.s .n (.s (.j ⟨[.d 25 .bool], [1]⟩ false .n (.c (.s .n .n) .n)) (.s (.s .n (.s .n (.c (.s .n .n) .n))) (.s .n (.s (.s .n (.c (.s .n .n) .n)) (.s .n (.j ⟨[.d 2 .bool], []⟩ false .n .n)))))))

def con_cache_Storable : Con Try.prog := ⟨20, [.d P_api_Message], [.d .bool], ⟨Try.f20, Try.func20, by kernel_rfl, by kernel_rfl⟩, m_cache_Storable, fun a r h => mkM_ok (T := t_cache_Storable) (N := 61) (own := []) (rng := []) (c := (codeOf Try.f20)) (h := h_cache_Storable) (qs := [.tmp 2]) kMix Try.func20 (by kernel_rfl) (by kernel_rfl) (by kernel_rfl) (by kernel_rfl) a r (Eq.trans (by kernel_rfl) h)⟩
def t_cache_element : Tab Try.prog := ⟨tes, ses, fes, bes, [con_bytes_Clone], [17, 36], fds, [], qes, ges, mes⟩
def h_cache_element : Hint := (.s .n (.s .n (.s .n (.s .n (.s .n (.s (.s .n (.b (.l (.a 22 21) ⟨[.h 3 26 P_api_Message 4 79 P_api_Option], [1, 2, 3, 20, 21]⟩ (.s .n (.s (.c .n .n) (.s (.b (.s .n .n)) .n)))))) (.s .n (.s .n .n))))))))

def con_cache_element : Con Try.prog := ⟨61, [.d P_api_Cached], [.d P_api_Cached], ⟨Try.f61, Try.func61, by kernel_rfl, by kernel_rfl⟩, m_cache_element, fun a r h => mkM_ok (T := t_cache_element) (N := 41) (own := [35]) (rng := [21]) (c := (codeOf Try.f61)) (h := h_cache_element) (qs := [.cell 2 38]) kMix Try.func61 (by kernel_rfl) (by kernel_rfl) (by kernel_rfl) (by kernel_rfl) a r (Eq.trans (by kernel_rfl) h)⟩
def t_cache_all : Tab Try.prog := ⟨tes, ses, fes, bes, [con_cache_element], [], fds, [], qes, ges, mes⟩
def h_cache_all : Hint := (.s .n (.s .n (.s (.s .n (.b (.l (.a 8 7) ⟨[.o 3 38 P_api_Cached], [6, 7]⟩ (.s .n (.s (.c .n .n) (.s (.b (.s .n .n)) .n)))))) (.s .n .n))))

def con_cache_all : Con Try.prog := ⟨62, [.d (.sl P_api_Cached)], [.d (.sl P_api_Cached)], ⟨Try.f62, Try.func62, by kernel_rfl, by kernel_rfl⟩, m_cache_all, fun a r h => mkM_ok (T := t_cache_all) (N := 19) (own := [16]) (rng := [7]) (c := (codeOf Try.f62)) (h := h_cache_all) (qs := [.tmp 2]) kMix Try.func62 (by kernel_rfl) (by kernel_rfl) (by kernel_rfl) (by kernel_rfl) a r (Eq.trans (by kernel_rfl) h)⟩
def t_cache_all_o : Tab Try.prog := ⟨tes, ses, fes, bes, [con_cache_element], [], fds, [], qes, ges, mes⟩
def h_cache_all_o : Hint := (.s .n (.s .n (.s (.s .n (.b (.l (.a 8 7) ⟨[.o 3 38 P_api_Cached], [6, 7]⟩ (.s .n (.s (.c .n .n) (.s (.b (.s .n .n)) .n)))))) (.s .n .n))))

def con_cache_all_o : Con Try.prog := ⟨62, [.d (.sl P_api_Cached)], [.o 38 P_api_Cached], ⟨Try.f62, Try.func62, by kernel_rfl, by kernel_rfl⟩, m_cache_all_o, fun a r h => mkM_ok (T := t_cache_all_o) (N := 19) (own := [16]) (rng := [7]) (c := (codeOf Try.f62)) (h := h_cache_all_o) (qs := [.tmp 2]) kMix Try.func62 (by kernel_rfl) (by kernel_rfl) (by kernel_rfl) (by kernel_rfl) a r (Eq.trans (by kernel_rfl) h)⟩
def t_cache_oldest : Tab Try.prog := ⟨tes, ses, fes, bes, [], [], fds, [], qes, ges, mes⟩
def h_cache_oldest : Hint := (.s .n (.s .n (.s (.s .n (.b (.l (.a 8 7) ⟨[.d 3 (.int .i64)], [0, 6, 7]⟩ (.s .n (.s (.c .n .n) (.j ⟨[.d 3 (.int .i64)], [0, 6, 7, 8]⟩ false (.b (.s .n (.s .n (.c .n .n)))) .n)))))) (.s .n .n))))

def con_cache_oldest : Con Try.prog := ⟨63, [.d (.sl P_api_Cached)], [.d (.int .i64)], ⟨Try.f63, Try.func63, by kernel_rfl, by kernel_rfl⟩, m_cache_oldest, fun a r h => mkM_ok (T := t_cache_oldest) (N := 24) (own := []) (rng := [7]) (c := (codeOf Try.f63)) (h := h_cache_oldest) (qs := [.tmp 2]) kMix Try.func63 (by kernel_rfl) (by kernel_rfl) (by kernel_rfl) (by kernel_rfl) a r (Eq.trans (by kernel_rfl) h)⟩
def t_cache_Insert : Tab Try.prog := ⟨tes, ses, fes, bes, [con_cache_argument, con_cache_Storable, con_cache_MaxAge, con_cache_element, con_cache_all_o, con_cache_find, con_cache_oldest], [], fds, [], qes, ges, mes⟩
def h_cache_Insert : Hint := (.s .n (.s (.s .n (.s .n (.c (.s .n .n) .n))) (.s (.s .n (.c (.s .n .n) .n)) (.s .n (.s .n (.s .n (.s .n (.s (.s .n (.s .n (.c (.s .n (.s .n .n)) .n))) (.j ⟨[.o 13 38 P_api_Cached], [12]⟩ false (.s .n (.c (.s .n .n) .n)) (.s .n .n))))))))))

def con_cache_Insert : Con Try.prog := ⟨23, [.d (.sl P_api_Cached), .d (.sl (.int .u8)), .d P_api_Message, .d (.int .i64)], [.d (.sl P_api_Cached), .d (.int .i64)], ⟨Try.f23, Try.func23, by kernel_rfl, by kernel_rfl⟩, m_cache_Insert, fun a r h => mkM_ok (T := t_cache_Insert) (N := 66) (own := [61]) (rng := []) (c := (codeOf Try.f23)) (h := h_cache_Insert) (qs := [.tmp 8, .tmp 9]) kMix Try.func23 (by kernel_rfl) (by kernel_rfl) (by kernel_rfl) (by kernel_rfl) a r (Eq.trans (by kernel_rfl) h)⟩
def t_option_FromUint : Tab Try.prog := ⟨tes, ses, fes, bes, [], [], fds, [], qes, ges, mes⟩
def h_option_FromUint : Hint := (.s .n (.s (.j ⟨[.d 10 .bool], [0]⟩ false .n (.c (.s .n .n) .n)) (.s .n (.s (.s .n (.b (.l .g ⟨[.o 3 5 (.int .u8), .d 4 (.int .i64)], [0]⟩ (.s (.s .n (.c .n .n)) (.j ⟨[.o 3 5 (.int .u8)], [0, 4]⟩ false (.b (.s .n (.c .n .n))) .n))))) (.s .n .n)))))

def con_option_FromUint : Con Try.prog := ⟨65, [.d (.int .i64)], [.d (.sl (.int .u8))], ⟨Try.f65, Try.func65, by kernel_rfl, by kernel_rfl⟩, m_option_FromUint, fun a r h => mkM_ok (T := t_option_FromUint) (N := 27) (own := [25]) (rng := []) (c := (codeOf Try.f65)) (h := h_option_FromUint) (qs := [.tmp 2]) kMix Try.func65 (by kernel_rfl) (by kernel_rfl) (by kernel_rfl) (by kernel_rfl) a r (Eq.trans (by kernel_rfl) h)⟩
def t_option_owned : Tab Try.prog := ⟨tes, ses, fes, bes, [con_bytes_Clone], [15, 32], fds, [], qes, ges, mes⟩
def h_option_owned : Hint := (.s .n (.s .n (.s .n (.s (.s .n (.b (.l (.a 18 17) ⟨[.h 2 26 P_api_Message 4 79 P_api_Option], [2, 4, 16, 17]⟩ (.s .n (.s (.c .n .n) (.s (.b (.s .n .n)) .n)))))) (.s .n .n)))))

def con_option_owned : Con Try.prog := ⟨74, [.d P_api_Message, .d (.sl P_api_Option)], [.d P_api_Message], ⟨Try.f74, Try.func74, by kernel_rfl, by kernel_rfl⟩, m_option_owned, fun a r h => mkM_ok (T := t_option_owned) (N := 35) (own := [31]) (rng := [17]) (c := (codeOf Try.f74)) (h := h_option_owned) (qs := [.cell 4 26]) kMix Try.func74 (by kernel_rfl) (by kernel_rfl) (by kernel_rfl) (by kernel_rfl) a r (Eq.trans (by kernel_rfl) h)⟩
def t_option_Set : Tab Try.prog := ⟨tes, ses, fes, bes, [con_option_owned], [], fds, [], qes, ges, mes⟩
def h_option_Set : Hint := (.s .n (.s .n (.s (.s .n (.b (.l (.a 16 15) ⟨[.o 7 79 P_api_Option, .o 8 79 P_api_Option], [1, 2, 3, 6, 14, 15]⟩ (.s .n (.s (.c .n .n) (.j ⟨[.o 7 79 P_api_Option, .o 8 79 P_api_Option], [1, 2, 3, 6, 14, 15, 16]⟩ false (.b (.s .n (.b (.s .n (.c .n (.s .n (.c .n .n))))))) .n)))))) (.s (.s .n (.b (.l (.a 41 40) ⟨[.o 7 79 P_api_Option], [1, 3, 6, 8, 39, 40]⟩ (.s .n (.s (.c .n .n) (.s (.b (.s .n .n)) .n)))))) (.s .n .n)))))

def con_option_Set : Con Try.prog := ⟨64, [.d P_api_Message, .d (.int .i64), .d (.sl (.sl (.int .u8)))], [.d P_api_Message], ⟨Try.f64, Try.func64, by kernel_rfl, by kernel_rfl⟩, m_option_Set, fun a r h => mkM_ok (T := t_option_Set) (N := 57) (own := [28, 37, 50]) (rng := [15, 40]) (c := (codeOf Try.f64)) (h := h_option_Set) (qs := [.cell 6 26]) kMix Try.func64 (by kernel_rfl) (by kernel_rfl) (by kernel_rfl) (by kernel_rfl) a r (Eq.trans (by kernel_rfl) h)⟩
def t_cache_Lookup : Tab Try.prog := ⟨tes, ses, fes, bes, [con_cache_find, con_option_FromUint, con_option_Set], [], fds, [], qes, ges, mes⟩
def h_cache_Lookup : Hint := (.s .n (.s .n (.s (.j ⟨[.d 37 .bool], [0, 2, 6, 8]⟩ false .n (.c (.s .n .n) .n)) (.s .n .n))))

def con_cache_Lookup : Con Try.prog := ⟨25, [.d (.sl P_api_Cached), .d (.sl (.int .u8)), .d (.int .i64)], [.d P_api_Message, .d .bool], ⟨Try.f25, Try.func25, by kernel_rfl, by kernel_rfl⟩, m_cache_Lookup, fun a r h => mkM_ok (T := t_cache_Lookup) (N := 60) (own := []) (rng := []) (c := (codeOf Try.f25)) (h := h_cache_Lookup) (qs := [.cell 6 26, .tmp 7]) kMix Try.func25 (by kernel_rfl) (by kernel_rfl) (by kernel_rfl) (by kernel_rfl) a r (Eq.trans (by kernel_rfl) h)⟩
def t_coreseclaw20_awake : Tab Try.prog := ⟨tes, ses, fes, bes, [con_cache_Insert, con_cache_Lookup, con_option_Get], [], fds, [], qes, ges, mes⟩
def h_coreseclaw20_awake : Hint := (.s .n (.s .n (.s .n (.s .n (.s .n (.j ⟨[.d 0 .bool], []⟩ false .n .n))))))

def con_coreseclaw20_awake : Con Try.prog := ⟨9, [], [.d .bool], ⟨Try.f9, Try.func9, by kernel_rfl, by kernel_rfl⟩, m_coreseclaw20_awake, fun a r h => mkM_ok (T := t_coreseclaw20_awake) (N := 52) (own := []) (rng := []) (c := (codeOf Try.f9)) (h := h_coreseclaw20_awake) (qs := [.tmp 0]) kMix Try.func9 (by kernel_rfl) (by kernel_rfl) (by kernel_rfl) (by kernel_rfl) a r (Eq.trans (by kernel_rfl) h)⟩
def t_coresecmake_New : Tab Try.prog := ⟨tes, ses, fes, bes, [], [], fds, [], qes, ges, mes⟩
def h_coresecmake_New : Hint := (.s .n (.s .n .n))

def con_coresecmake_New : Con Try.prog := ⟨10, [.d (.sl (.int .i64))], [.p 68 P_coresecmake_Deck], ⟨Try.f10, Try.func10, by kernel_rfl, by kernel_rfl⟩, m_coresecmake_New, fun a r h => mkM_ok (T := t_coresecmake_New) (N := 6) (own := []) (rng := []) (c := (codeOf Try.f10)) (h := h_coresecmake_New) (qs := [.tmp 2]) kMix Try.func10 (by kernel_rfl) (by kernel_rfl) (by kernel_rfl) (by kernel_rfl) a r (Eq.trans (by kernel_rfl) h)⟩
def t_coresecmake_Deck_Left : Tab Try.prog := ⟨tes, ses, fes, bes, [], [], fds, [], qes, ges, mes⟩
def h_coresecmake_Deck_Left : Hint := (.s .n (.s .n .n))

def con_coresecmake_Deck_Left : Con Try.prog := ⟨37, [.p 68 P_coresecmake_Deck], [.d .bool], ⟨Try.f37, Try.func37, by kernel_rfl, by kernel_rfl⟩, m_coresecmake_Deck_Left, fun a r h => mkM_ok (T := t_coresecmake_Deck_Left) (N := 13) (own := []) (rng := []) (c := (codeOf Try.f37)) (h := h_coresecmake_Deck_Left) (qs := [.tmp 2]) kMix Try.func37 (by kernel_rfl) (by kernel_rfl) (by kernel_rfl) (by kernel_rfl) a r (Eq.trans (by kernel_rfl) h)⟩
def t_coresecmake_Mod : Tab Try.prog := ⟨tes, ses, fes, bes, [], [], fds, [], qes, ges, mes⟩
def h_coresecmake_Mod : Hint := (.s .n (.s .n (.j ⟨[.d 5 (.int .i64)], []⟩ false (.s .n (.c .n .n)) (.s .n .n))))

def con_coresecmake_Mod : Con Try.prog := ⟨14, [.d (.int .i64), .d (.int .i64)], [.d (.int .i64)], ⟨Try.f14, Try.func14, by kernel_rfl, by kernel_rfl⟩, m_coresecmake_Mod, fun a r h => mkM_ok (T := t_coresecmake_Mod) (N := 15) (own := []) (rng := []) (c := (codeOf Try.f14)) (h := h_coresecmake_Mod) (qs := [.tmp 4]) kMix Try.func14 (by kernel_rfl) (by kernel_rfl) (by kernel_rfl) (by kernel_rfl) a r (Eq.trans (by kernel_rfl) h)⟩
def t_coresecmake_Deck_Next : Tab Try.prog := ⟨tes, ses, fes, bes, [con_coresecmake_Mod], [], fds, [], qes, ges, mes⟩
def h_coresecmake_Deck_Next : Hint := (.s .n (.s (.s .n (.c (.s .n .n) .n)) (.s .n (.s .n .n))))

def con_coresecmake_Deck_Next : Con Try.prog := ⟨38, [.p 68 P_coresecmake_Deck, .d (.int .i64)], [.d (.int .i64)], ⟨Try.f38, Try.func38, by kernel_rfl, by kernel_rfl⟩, m_coresecmake_Deck_Next, fun a r h => mkM_ok (T := t_coresecmake_Deck_Next) (N := 35) (own := []) (rng := []) (c := (codeOf Try.f38)) (h := h_coresecmake_Deck_Next) (qs := [.tmp 4]) kMix Try.func38 (by kernel_rfl) (by kernel_rfl) (by kernel_rfl) (by kernel_rfl) a r (Eq.trans (by kernel_rfl) h)⟩
def t_coresecmake_Deck_Bytes : Tab Try.prog := ⟨tes, ses, fes, bes, [con_coresecmake_Deck_Next], [], fds, [], qes, ges, mes⟩
def h_coresecmake_Deck_Bytes : Hint := (.s .n (.s .n (.s (.s .n (.b (.l .g ⟨[.o 5 5 (.int .u8), .d 6 (.int .i64), .b 0 68 P_coresecmake_Deck], [0]⟩ (.s (.s .n (.c .n .n)) (.s (.b .n) .n))))) (.s .n .n))))

def con_coresecmake_Deck_Bytes : Con Try.prog := ⟨40, [.p 68 P_coresecmake_Deck, .d (.int .i64)], [.d (.sl (.int .u8))], ⟨Try.f40, Try.func40, by kernel_rfl, by kernel_rfl⟩, m_coresecmake_Deck_Bytes, fun a r h => mkM_ok (T := t_coresecmake_Deck_Bytes) (N := 22) (own := [20]) (rng := []) (c := (codeOf Try.f40)) (h := h_coresecmake_Deck_Bytes) (qs := [.tmp 4]) kMix Try.func40 (by kernel_rfl) (by kernel_rfl) (by kernel_rfl) (by kernel_rfl) a r (Eq.trans (by kernel_rfl) h)⟩
def t_coresecref16_FromUint : Tab Try.prog := ⟨tes, ses, fes, bes, [], [], fds, [], qes, ges, mes⟩
def h_coresecref16_FromUint : Hint := (.s .n (.s (.j ⟨[.d 9 .bool], [0]⟩ false .n (.c (.s .n .n) .n)) (.s .n (.j ⟨[.d 3 (.sl (.int .u8))], []⟩ false (.b (.l .g ⟨[.d 0 (.int .i64), .d 3 (.sl (.int .u8))], []⟩ (.s (.s .n (.c .n .n)) (.s (.b .n) .n)))) (.s .n .n)))))

def con_coresecref16_FromUint : Con Try.prog := ⟨42, [.d (.int .i64)], [.d (.sl (.int .u8))], ⟨Try.f42, Try.func42, by kernel_rfl, by kernel_rfl⟩, m_coresecref16_FromUint, fun a r h => mkM_ok (T := t_coresecref16_FromUint) (N := 20) (own := [16]) (rng := []) (c := (codeOf Try.f42)) (h := h_coresecref16_FromUint) (qs := [.tmp 2]) kMix Try.func42 (by kernel_rfl) (by kernel_rfl) (by kernel_rfl) (by kernel_rfl) a r (Eq.trans (by kernel_rfl) h)⟩
def t_coresecref16_with : Tab Try.prog := ⟨tes, ses, fes, bes, [], [], fds, [], qes, ges, mes⟩
def h_coresecref16_with : Hint := (.s .n (.s .n (.s .n (.s (.s .n (.b (.l (.a 18 17) ⟨[.o 5 79 P_api_Option], [2, 4, 16, 17]⟩ (.s .n (.s (.c .n .n) (.s (.b (.s .n .n)) .n)))))) (.s .n (.s .n .n))))))

def con_coresecref16_with : Con Try.prog := ⟨69, [.d P_api_Message, .d (.sl P_api_Option)], [.d P_api_Message], ⟨Try.f69, Try.func69, by kernel_rfl, by kernel_rfl⟩, m_coresecref16_with, fun a r h => mkM_ok (T := t_coresecref16_with) (N := 35) (own := [30]) (rng := [17]) (c := (codeOf Try.f69)) (h := h_coresecref16_with) (qs := [.cell 4 26]) kMix Try.func69 (by kernel_rfl) (by kernel_rfl) (by kernel_rfl) (by kernel_rfl) a r (Eq.trans (by kernel_rfl) h)⟩
def t_coresecref16_Set : Tab Try.prog := ⟨tes, ses, fes, bes, [con_coresecref16_with], [], fds, [], qes, ges, mes⟩
def h_coresecref16_Set : Hint := (.s .n (.s .n (.s (.s .n (.b (.l (.a 17 16) ⟨[.o 7 79 P_api_Option], [1, 2, 3, 6, 15, 16]⟩ (.s .n (.s (.c .n .n) (.j ⟨[.o 7 79 P_api_Option], [1, 2, 3, 6, 15, 16, 17]⟩ false (.b (.s .n (.s .n (.c .n .n)))) .n)))))) (.s (.s .n (.b (.l (.a 32 31) ⟨[.o 7 79 P_api_Option], [1, 3, 6, 30, 31]⟩ (.s .n (.s (.c .n .n) (.s (.b (.s .n .n)) .n)))))) (.s (.s .n (.b (.l (.a 46 45) ⟨[.o 7 79 P_api_Option], [1, 3, 6, 44, 45]⟩ (.s .n (.s (.c .n .n) (.j ⟨[.o 7 79 P_api_Option], [1, 3, 6, 44, 45, 46]⟩ false (.b (.s .n (.s .n (.c .n .n)))) .n)))))) (.s .n .n))))))

def con_coresecref16_Set : Con Try.prog := ⟨41, [.d P_api_Message, .d (.int .i64), .d (.sl (.sl (.int .u8)))], [.d P_api_Message], ⟨Try.f41, Try.func41, by kernel_rfl, by kernel_rfl⟩, m_coresecref16_Set, fun a r h => mkM_ok (T := t_coresecref16_Set) (N := 62) (own := [28, 41, 57]) (rng := [16, 31, 45]) (c := (codeOf Try.f41)) (h := h_coresecref16_Set) (qs := [.cell 6 26]) kMix Try.func41 (by kernel_rfl) (by kernel_rfl) (by kernel_rfl) (by kernel_rfl) a r (Eq.trans (by kernel_rfl) h)⟩
def t_coresecref18_valid : Tab Try.prog := ⟨tes, ses, fes, bes, [], [], fds, [], qes, ges, mes⟩
def h_coresecref18_valid : Hint := (.s .n (.j ⟨[.d 2 .bool], []⟩ false .n .n))

def con_coresecref18_valid : Con Try.prog := ⟨70, [.d P_api_Block], [.d .bool], ⟨Try.f70, Try.func70, by kernel_rfl, by kernel_rfl⟩, m_coresecref18_valid, fun a r h => mkM_ok (T := t_coresecref18_valid) (N := 21) (own := []) (rng := []) (c := (codeOf Try.f70)) (h := h_coresecref18_valid) (qs := [.tmp 2]) kMix Try.func70 (by kernel_rfl) (by kernel_rfl) (by kernel_rfl) (by kernel_rfl) a r (Eq.trans (by kernel_rfl) h)⟩
def t_coresecref18_Value : Tab Try.prog := ⟨tes, ses, fes, bes, [con_coresecref18_valid, con_coresecref16_FromUint], [], fds, [], qes, ges, mes⟩
def h_coresecref18_Value : Hint := (.s .n (.s (.s .n (.c (.s .n .n) .n)) (.s .n (.j ⟨[.d 4 (.int .i64)], []⟩ false (.s .n (.c .n .n)) (.s .n .n)))))

def con_coresecref18_Value : Con Try.prog := ⟨43, [.d P_api_Block], [.d (.sl (.int .u8)), .d (.int .i64)], ⟨Try.f43, Try.func43, by kernel_rfl, by kernel_rfl⟩, m_coresecref18_Value, fun a r h => mkM_ok (T := t_coresecref18_Value) (N := 20) (own := []) (rng := []) (c := (codeOf Try.f43)) (h := h_coresecref18_Value) (qs := [.tmp 2, .tmp 3]) kMix Try.func43 (by kernel_rfl) (by kernel_rfl) (by kernel_rfl) (by kernel_rfl) a r (Eq.trans (by kernel_rfl) h)⟩
def t_coresecmake_Deck_Response : Tab Try.prog := ⟨tes, ses, fes, bes, [con_coresecmake_Deck_Next, con_coresecmake_Deck_Bytes, con_coresecref16_FromUint, con_coresecref16_Set, con_coresecref18_Value], [], fds, [], qes, ges, mes⟩
def h_coresecmake_Deck_Response : Hint := (.s .n (.s .n (.j ⟨[.b 0 68 P_coresecmake_Deck, .b 3 26 P_api_Message], [0, 2, 3]⟩ false (.s .n (.c .n .n)) (.j ⟨[.b 0 68 P_coresecmake_Deck, .b 3 26 P_api_Message], [0, 2, 3]⟩ false (.s .n (.c .n .n)) (.j ⟨[.b 0 68 P_coresecmake_Deck, .b 3 26 P_api_Message], [0, 2, 3]⟩ false (.s .n (.b (.s .n (.c .n (.s .n (.c (.s .n .n) .n)))))) (.s .n .n))))))

def con_coresecmake_Deck_Response : Con Try.prog := ⟨11, [.p 68 P_coresecmake_Deck], [.d P_api_Message], ⟨Try.f11, Try.func11, by kernel_rfl, by kernel_rfl⟩, m_coresecmake_Deck_Response, fun a r h => mkM_ok (T := t_coresecmake_Deck_Response) (N := 67) (own := []) (rng := []) (c := (codeOf Try.f11)) (h := h_coresecmake_Deck_Response) (qs := [.cell 2 26]) kMix Try.func11 (by kernel_rfl) (by kernel_rfl) (by kernel_rfl) (by kernel_rfl) a r (Eq.trans (by kernel_rfl) h)⟩
def t_cache_Refresh : Tab Try.prog := ⟨tes, ses, fes, bes, [con_cache_argument, con_coap_Valid, con_cache_find, con_option_Get, con_bytes_Equal, con_cache_all_o, con_cache_MaxAge], [], fds, [], qes, ges, mes⟩
def h_cache_Refresh : Hint := (.s .n (.s (.s .n (.j ⟨[.d 27 .bool], [0, 1, 3, 6]⟩ false .n (.c (.s .n .n) .n))) (.s .n (.s (.b (.s .n (.c (.s .n .n) (.s .n (.c (.s .n .n) .n))))) (.s .n (.s .n (.s (.j ⟨[.d 63 .bool], [0, 3, 6, 11]⟩ false .n (.c (.s .n .n) .n)) (.s .n (.s .n (.s .n .n))))))))))

def con_cache_Refresh : Con Try.prog := ⟨34, [.d (.sl P_api_Cached), .d (.sl (.int .u8)), .d P_api_Message, .d (.int .i64)], [.d (.sl P_api_Cached), .d (.int .i64)], ⟨Try.f34, Try.func34, by kernel_rfl, by kernel_rfl⟩, m_cache_Refresh, fun a r h => mkM_ok (T := t_cache_Refresh) (N := 78) (own := []) (rng := []) (c := (codeOf Try.f34)) (h := h_cache_Refresh) (qs := [.tmp 8, .tmp 9]) kMix Try.func34 (by kernel_rfl) (by kernel_rfl) (by kernel_rfl) (by kernel_rfl) a r (Eq.trans (by kernel_rfl) h)⟩
def t_coreseclaw20_CacheFresh : Tab Try.prog := ⟨tes, ses, fes, bes, [con_coresecmake_Few, con_coreseclaw20_awake, con_coresecmake_New, con_coresecmake_Deck_Left, con_coresecmake_Deck_Next, con_coresecmake_Deck_Response, con_cache_Insert, con_cache_Storable, con_cache_MaxAge, con_cache_Refresh, con_cache_Lookup, con_cache_Valid], [], fds, [], qes, ges, mes⟩
def h_coreseclaw20_CacheFresh : Hint := (.s .n (.s (.s .n (.c (.s .n .n) .n)) (.s .n (.s .n (.s .n (.s .n (.j ⟨[], []⟩ true (.b (.l .g ⟨[.m 5 61 P_coreseclaw20_entry, .d 4 (.sl P_api_Cached), .d 6 (.int .i64), .b 3 68 P_coresecmake_Deck], [3, 5]⟩ (.s (.s .n (.c .n .n)) (.b (.s .n (.s .n (.j ⟨[.m 5 61 P_coreseclaw20_entry, .d 4 (.sl P_api_Cached), .b 3 68 P_coresecmake_Deck], [3, 5, 6]⟩ true (.s .n (.b (.j ⟨[.d 95 .bool], [3, 4, 5, 6, 7, 36]⟩ false (.s .n (.c .n .n)) (.c (.s .n (.s .n (.s (.s .n (.c (.s .n .n) .n)) (.s .n (.c (.s .n .n) .n))))) (.s .n (.c (.s .n (.s .n (.s .n (.s .n (.c (.s .n .n) .n))))) (.s .n (.s (.s .n (.c .n .n)) (.s .n (.s .n (.j ⟨[.d 94 .bool], [3, 4, 5, 6]⟩ false .n (.c (.s .n .n) .n)))))))))))) (.j ⟨[.d 158 .bool], [3, 4, 5, 6]⟩ false .n (.c (.s .n .n) .n))))))))) (.s .n .n))))))))

def con_coreseclaw20_CacheFresh : Con Try.prog := ⟨7, [.d (.sl (.int .i64))], [.d .bool], ⟨Try.f7, Try.func7, by kernel_rfl, by kernel_rfl⟩, m_coreseclaw20_CacheFresh, fun a r h => mkM_ok (T := t_coreseclaw20_CacheFresh) (N := 160) (own := []) (rng := []) (c := (codeOf Try.f7)) (h := h_coreseclaw20_CacheFresh) (qs := [.tmp 2]) kMix Try.func7 (by kernel_rfl) (by kernel_rfl) (by kernel_rfl) (by kernel_rfl) a r (Eq.trans (by kernel_rfl) h)⟩
def t_coresecmake_Short : Tab Try.prog := ⟨tes, ses, fes, bes, [], [], fds, [], qes, ges, mes⟩
def h_coresecmake_Short : Hint := (.s .n (.s .n .n))

def con_coresecmake_Short : Con Try.prog := ⟨24, [.d (.sl (.int .u8))], [.d .bool], ⟨Try.f24, Try.func24, by kernel_rfl, by kernel_rfl⟩, m_coresecmake_Short, fun a r h => mkM_ok (T := t_coresecmake_Short) (N := 6) (own := []) (rng := []) (c := (codeOf Try.f24)) (h := h_coresecmake_Short) (qs := [.tmp 2]) kMix Try.func24 (by kernel_rfl) (by kernel_rfl) (by kernel_rfl) (by kernel_rfl) a r (Eq.trans (by kernel_rfl) h)⟩
def t_coreseclaw20_light : Tab Try.prog := ⟨tes, ses, fes, bes, [con_coresecmake_Short], [], fds, [], qes, ges, mes⟩
def h_coreseclaw20_light : Hint := (.s .n (.s (.s .n (.b (.l (.a 7 6) ⟨[], [0, 5, 6]⟩ (.s .n (.s (.c .n .n) (.s (.b (.s .n (.j ⟨[.d 21 .bool], [0, 5, 6, 7]⟩ false .n (.c (.s .n .n) .n)))) .n)))))) (.s .n .n)))

def con_coreseclaw20_light : Con Try.prog := ⟨8, [.d (.sl P_api_Cached)], [.d .bool], ⟨Try.f8, Try.func8, by kernel_rfl, by kernel_rfl⟩, m_coreseclaw20_light, fun a r h => mkM_ok (T := t_coreseclaw20_light) (N := 26) (own := []) (rng := [6]) (c := (codeOf Try.f8)) (h := h_coreseclaw20_light) (qs := [.tmp 2]) kMix Try.func8 (by kernel_rfl) (by kernel_rfl) (by kernel_rfl) (by kernel_rfl) a r (Eq.trans (by kernel_rfl) h)⟩
def t_coresecref20_keyed : Tab Try.prog := ⟨tes, ses, fes, bes, [], [], fds, [], qes, ges, mes⟩
def h_coresecref20_keyed : Hint := (.s .n (.j ⟨[.d 2 .bool], []⟩ false .n .n))

def con_coresecref20_keyed : Con Try.prog := ⟨50, [.d (.sl (.int .u8))], [.d .bool], ⟨Try.f50, Try.func50, by kernel_rfl, by kernel_rfl⟩, m_coresecref20_keyed, fun a r h => mkM_ok (T := t_coresecref20_keyed) (N := 11) (own := []) (rng := []) (c := (codeOf Try.f50)) (h := h_coresecref20_keyed) (qs := [.tmp 2]) kMix Try.func50 (by kernel_rfl) (by kernel_rfl) (by kernel_rfl) (by kernel_rfl) a r (Eq.trans (by kernel_rfl) h)⟩
def t_coresecref15_extended : Tab Try.prog := ⟨tes, ses, fes, bes, [], [], fds, [], qes, ges, mes⟩
def h_coresecref15_extended : Hint := (.s .n (.s (.b (.s .n (.c (.s .n .n) (.s .n (.c (.s .n .n) .n))))) (.s .n .n)))

def con_coresecref15_extended : Con Try.prog := ⟨73, [.d (.int .i64)], [.d (.int .i64), .d (.sl (.int .u8))], ⟨Try.f73, Try.func73, by kernel_rfl, by kernel_rfl⟩, m_coresecref15_extended, fun a r h => mkM_ok (T := t_coresecref15_extended) (N := 23) (own := []) (rng := []) (c := (codeOf Try.f73)) (h := h_coresecref15_extended) (qs := [.tmp 2, .tmp 3]) kMix Try.func73 (by kernel_rfl) (by kernel_rfl) (by kernel_rfl) (by kernel_rfl) a r (Eq.trans (by kernel_rfl) h)⟩
def t_coresecref15_Raw : Tab Try.prog := ⟨tes, ses, fes, bes, [con_coresecref15_extended], [], fds, [], qes, ges, mes⟩
def h_coresecref15_Raw : Hint := (.s .n (.s .n (.s .n (.s .n (.s (.s .n (.b (.l (.a 38 37) ⟨[.o 3 5 (.int .u8), .d 4 (.int .i64)], [1, 36, 37]⟩ (.s .n (.s (.c .n .n) (.s (.b (.s .n (.s .n (.s .n (.s .n .n))))) .n)))))) (.j ⟨[.o 3 5 (.int .u8)], []⟩ false (.s .n (.c .n .n)) (.s .n .n)))))))

def con_coresecref15_Raw : Con Try.prog := ⟨52, [.d P_api_Message], [.d (.sl (.int .u8))], ⟨Try.f52, Try.func52, by kernel_rfl, by kernel_rfl⟩, m_coresecref15_Raw, fun a r h => mkM_ok (T := t_coresecref15_Raw) (N := 86) (own := [30, 34, 64, 66, 68, 71, 81, 84]) (rng := [37]) (c := (codeOf Try.f52)) (h := h_coresecref15_Raw) (qs := [.tmp 2]) kMix Try.func52 (by kernel_rfl) (by kernel_rfl) (by kernel_rfl) (by kernel_rfl) a r (Eq.trans (by kernel_rfl) h)⟩
def t_coresecref15_Valid : Tab Try.prog := ⟨tes, ses, fes, bes, [con_coresecref15_Raw], [], fds, [], qes, ges, mes⟩
def h_coresecref15_Valid : Hint := (.s .n (.s (.j ⟨[.d 52 .bool], [1]⟩ false .n (.c (.s .n .n) .n)) (.s .n (.s (.j ⟨[.d 69 .bool], [1]⟩ false .n (.c (.s .n .n) .n)) (.s .n (.s (.s .n (.b (.l (.a 73 72) ⟨[.d 4 (.int .i64)], [1, 71, 72]⟩ (.s .n (.s (.c .n .n) (.s (.b (.s .n (.s (.j ⟨[.d 91 .bool], [1, 6, 71, 72, 73]⟩ false .n (.c (.s .n .n) .n)) .n))) .n)))))) (.s (.j ⟨[.d 121 .bool], [1]⟩ false .n (.c (.s .n .n) .n)) (.s .n .n))))))))

def con_coresecref15_Valid : Con Try.prog := ⟨17, [.d P_api_Message], [.d .bool], ⟨Try.f17, Try.func17, by kernel_rfl, by kernel_rfl⟩, m_coresecref15_Valid, fun a r h => mkM_ok (T := t_coresecref15_Valid) (N := 126) (own := []) (rng := [72]) (c := (codeOf Try.f17)) (h := h_coresecref15_Valid) (qs := [.tmp 2]) kMix Try.func17 (by kernel_rfl) (by kernel_rfl) (by kernel_rfl) (by kernel_rfl) a r (Eq.trans (by kernel_rfl) h)⟩
def t_coresecref15_Response : Tab Try.prog := ⟨tes, ses, fes, bes, [], [], fds, [], qes, ges, mes⟩
def h_coresecref15_Response : Hint := (.s .n (.j ⟨[.d 2 .bool], []⟩ false .n .n))

def con_coresecref15_Response : Con Try.prog := ⟨51, [.d (.int .i64)], [.d .bool], ⟨Try.f51, Try.func51, by kernel_rfl, by kernel_rfl⟩, m_coresecref15_Response, fun a r h => mkM_ok (T := t_coresecref15_Response) (N := 17) (own := []) (rng := []) (c := (codeOf Try.f51)) (h := h_coresecref15_Response) (qs := [.tmp 2]) kMix Try.func51 (by kernel_rfl) (by kernel_rfl) (by kernel_rfl) (by kernel_rfl) a r (Eq.trans (by kernel_rfl) h)⟩
def t_coresecref20_Valid : Tab Try.prog := ⟨tes, ses, fes, bes, [con_coresecref20_keyed, con_coresecref15_Valid, con_coresecref15_Response], [], fds, [], qes, ges, mes⟩
def h_coresecref20_Valid : Hint := (.s .n (.s (.s .n (.c (.s .n .n) .n)) (.s (.s .n (.b (.l (.a 13 12) ⟨[], [0, 11, 12]⟩ (.s .n (.s (.c .n .n) (.s (.b (.s .n (.s .n (.s (.j ⟨[.d 60 .bool], [0, 3, 4, 11, 12, 13]⟩ false .n (.c (.s .n .n) .n)) (.s .n (.b (.l (.a 65 64) ⟨[], [0, 4, 11, 12, 13, 63, 64]⟩ (.s .n (.s (.c .n .n) (.s (.b (.s .n (.s .n (.c (.s .n .n) .n)))) .n)))))))))) .n)))))) (.s .n .n))))

def con_coresecref20_Valid : Con Try.prog := ⟨16, [.d (.sl P_api_Cached)], [.d .bool], ⟨Try.f16, Try.func16, by kernel_rfl, by kernel_rfl⟩, m_coresecref20_Valid, fun a r h => mkM_ok (T := t_coresecref20_Valid) (N := 78) (own := []) (rng := [12, 64]) (c := (codeOf Try.f16)) (h := h_coresecref20_Valid) (qs := [.tmp 2]) kMix Try.func16 (by kernel_rfl) (by kernel_rfl) (by kernel_rfl) (by kernel_rfl) a r (Eq.trans (by kernel_rfl) h)⟩
def t_coresecref16_All : Tab Try.prog := ⟨tes, ses, fes, bes, [], [], fds, [], qes, ges, mes⟩
def h_coresecref16_All : Hint := (.s .n (.s .n (.s (.s .n (.b (.l (.a 11 10) ⟨[.o 5 23 (.sl (.int .u8))], [1, 9, 10]⟩ (.s .n (.s (.c .n .n) (.j ⟨[.o 5 23 (.sl (.int .u8))], [1, 9, 10, 11]⟩ false (.b (.s .n (.s .n (.c .n .n)))) .n)))))) (.s .n .n))))

def con_coresecref16_All : Con Try.prog := ⟨58, [.d P_api_Message, .d (.int .i64)], [.d (.sl (.sl (.int .u8)))], ⟨Try.f58, Try.func58, by kernel_rfl, by kernel_rfl⟩, m_coresecref16_All, fun a r h => mkM_ok (T := t_coresecref16_All) (N := 27) (own := [24]) (rng := [10]) (c := (codeOf Try.f58)) (h := h_coresecref16_All) (qs := [.tmp 4]) kMix Try.func58 (by kernel_rfl) (by kernel_rfl) (by kernel_rfl) (by kernel_rfl) a r (Eq.trans (by kernel_rfl) h)⟩
def t_coresecref16_Get : Tab Try.prog := ⟨tes, ses, fes, bes, [con_coresecref16_All], [], fds, [], qes, ges, mes⟩
def h_coresecref16_Get : Hint := (.s .n (.s .n (.s (.s .n (.c (.s .n .n) .n)) (.s .n .n))))

def con_coresecref16_Get : Con Try.prog := ⟨54, [.d P_api_Message, .d (.int .i64)], [.d (.sl (.int .u8)), .d .bool], ⟨Try.f54, Try.func54, by kernel_rfl, by kernel_rfl⟩, m_coresecref16_Get, fun a r h => mkM_ok (T := t_coresecref16_Get) (N := 16) (own := []) (rng := []) (c := (codeOf Try.f54)) (h := h_coresecref16_Get) (qs := [.tmp 4, .tmp 5]) kMix Try.func54 (by kernel_rfl) (by kernel_rfl) (by kernel_rfl) (by kernel_rfl) a r (Eq.trans (by kernel_rfl) h)⟩
def t_coresecref16_Uint : Tab Try.prog := ⟨tes, ses, fes, bes, [], [], fds, [], qes, ges, mes⟩
def h_coresecref16_Uint : Hint := (.s .n (.s .n (.s (.s .n (.b (.l (.a 9 8) ⟨[.d 4 (.int .i64)], [7, 8]⟩ (.s .n (.s (.c .n .n) (.s (.b (.s .n (.s .n (.s .n (.c (.s .n .n) .n))))) .n)))))) (.s .n .n))))

def con_coresecref16_Uint : Con Try.prog := ⟨55, [.d (.sl (.int .u8))], [.d (.int .i64), .d (.int .i64)], ⟨Try.f55, Try.func55, by kernel_rfl, by kernel_rfl⟩, m_coresecref16_Uint, fun a r h => mkM_ok (T := t_coresecref16_Uint) (N := 22) (own := []) (rng := [8]) (c := (codeOf Try.f55)) (h := h_coresecref16_Uint) (qs := [.tmp 2, .tmp 3]) kMix Try.func55 (by kernel_rfl) (by kernel_rfl) (by kernel_rfl) (by kernel_rfl) a r (Eq.trans (by kernel_rfl) h)⟩
def t_coresecref20_MaxAge : Tab Try.prog := ⟨tes, ses, fes, bes, [con_coresecref16_Get, con_coresecref16_Uint], [], fds, [], qes, ges, mes⟩
def h_coresecref20_MaxAge : Hint := (.s .n (.s .n (.s (.s .n (.c (.s .n .n) .n)) (.s (.s .n (.c (.s .n .n) .n)) (.s .n (.s .n .n))))))

def con_coresecref20_MaxAge : Con Try.prog := ⟨19, [.d P_api_Message], [.d (.int .i64)], ⟨Try.f19, Try.func19, by kernel_rfl, by kernel_rfl⟩, m_coresecref20_MaxAge, fun a r h => mkM_ok (T := t_coresecref20_MaxAge) (N := 23) (own := []) (rng := []) (c := (codeOf Try.f19)) (h := h_coresecref20_MaxAge) (qs := [.tmp 2]) kMix Try.func19 (by kernel_rfl) (by kernel_rfl) (by kernel_rfl) (by kernel_rfl) a r (Eq.trans (by kernel_rfl) h)⟩
def t_coresecref18_Parse : Tab Try.prog := ⟨tes, ses, fes, bes, [con_coresecref16_Uint], [], fds, [], qes, ges, mes⟩
def h_coresecref18_Parse : Hint := (.s .n (.s (.s .n (.c (.s .n .n) .n)) (.s .n (.s (.s .n (.c (.s .n .n) .n)) (.s .n .n)))))

def con_coresecref18_Parse : Con Try.prog := ⟨59, [.d (.sl (.int .u8))], [.d P_api_Block, .d (.int .i64)], ⟨Try.f59, Try.func59, by kernel_rfl, by kernel_rfl⟩, m_coresecref18_Parse, fun a r h => mkM_ok (T := t_coresecref18_Parse) (N := 28) (own := []) (rng := []) (c := (codeOf Try.f59)) (h := h_coresecref18_Parse) (qs := [.cell 2 74, .tmp 3]) kMix Try.func59 (by kernel_rfl) (by kernel_rfl) (by kernel_rfl) (by kernel_rfl) a r (Eq.trans (by kernel_rfl) h)⟩
def t_coresecref20_Storable : Tab Try.prog := ⟨tes, ses, fes, bes, [con_coresecref15_Valid, con_coresecref20_MaxAge, con_coresecref16_Get, con_coresecref16_All, con_coresecref18_Parse], [], fds, [], qes, ges, mes⟩
def h_coresecref20_Storable : Hint := (.s .n (.s (.j ⟨[.d 25 .bool], [1]⟩ false .n (.c (.s .n .n) .n)) (.s (.s .n (.s .n (.c (.s .n .n) .n))) (.s .n (.s (.s .n (.c (.s .n .n) .n)) (.s .n (.j ⟨[.d 2 .bool], []⟩ false .n .n)))))))

def con_coresecref20_Storable : Con Try.prog := ⟨21, [.d P_api_Message], [.d .bool], ⟨Try.f21, Try.func21, by kernel_rfl, by kernel_rfl⟩, m_coresecref20_Storable, fun a r h => mkM_ok (T := t_coresecref20_Storable) (N := 61) (own := []) (rng := []) (c := (codeOf Try.f21)) (h := h_coresecref20_Storable) (qs := [.tmp 2]) kMix Try.func21 (by kernel_rfl) (by kernel_rfl) (by kernel_rfl) (by kernel_rfl) a r (Eq.trans (by kernel_rfl) h)⟩
def t_coresecref15_Copy : Tab Try.prog := ⟨tes, ses, fes, bes, [], [], fds, [], qes, ges, mes⟩
def h_coresecref15_Copy : Hint := (.s .n (.s .n (.s .n (.s (.s .n (.b (.l (.a 17 16) ⟨[.o 3 79 P_api_Option], [1, 2, 15, 16]⟩ (.s .n (.s (.c .n .n) (.s (.b (.s .n .n)) .n)))))) (.s .n (.s .n .n))))))

def con_coresecref15_Copy : Con Try.prog := ⟨44, [.d P_api_Message], [.d P_api_Message], ⟨Try.f44, Try.func44, by kernel_rfl, by kernel_rfl⟩, m_coresecref15_Copy, fun a r h => mkM_ok (T := t_coresecref15_Copy) (N := 34) (own := [29]) (rng := [16]) (c := (codeOf Try.f44)) (h := h_coresecref15_Copy) (qs := [.cell 2 26]) kMix Try.func44 (by kernel_rfl) (by kernel_rfl) (by kernel_rfl) (by kernel_rfl) a r (Eq.trans (by kernel_rfl) h)⟩
def t_coresecref20_Copy : Tab Try.prog := ⟨tes, ses, fes, bes, [con_coresecref15_Copy], [], fds, [], qes, ges, mes⟩
def h_coresecref20_Copy : Hint := (.s .n (.s .n (.s (.s .n (.b (.l (.a 8 7) ⟨[.o 3 38 P_api_Cached], [6, 7]⟩ (.s .n (.s (.c .n .n) (.s (.b (.s .n (.s .n .n))) .n)))))) (.s .n .n))))

def con_coresecref20_Copy : Con Try.prog := ⟨13, [.d (.sl P_api_Cached)], [.d (.sl P_api_Cached)], ⟨Try.f13, Try.func13, by kernel_rfl, by kernel_rfl⟩, m_coresecref20_Copy, fun a r h => mkM_ok (T := t_coresecref20_Copy) (N := 26) (own := [23]) (rng := [7]) (c := (codeOf Try.f13)) (h := h_coresecref20_Copy) (qs := [.tmp 2]) kMix Try.func13 (by kernel_rfl) (by kernel_rfl) (by kernel_rfl) (by kernel_rfl) a r (Eq.trans (by kernel_rfl) h)⟩
def t_coresecref20_Copy_o : Tab Try.prog := ⟨tes, ses, fes, bes, [con_coresecref15_Copy], [], fds, [], qes, ges, mes⟩
def h_coresecref20_Copy_o : Hint := (.s .n (.s .n (.s (.s .n (.b (.l (.a 8 7) ⟨[.o 3 38 P_api_Cached], [6, 7]⟩ (.s .n (.s (.c .n .n) (.s (.b (.s .n (.s .n .n))) .n)))))) (.s .n .n))))

def con_coresecref20_Copy_o : Con Try.prog := ⟨13, [.d (.sl P_api_Cached)], [.o 38 P_api_Cached], ⟨Try.f13, Try.func13, by kernel_rfl, by kernel_rfl⟩, m_coresecref20_Copy_o, fun a r h => mkM_ok (T := t_coresecref20_Copy_o) (N := 26) (own := [23]) (rng := [7]) (c := (codeOf Try.f13)) (h := h_coresecref20_Copy_o) (qs := [.tmp 2]) kMix Try.func13 (by kernel_rfl) (by kernel_rfl) (by kernel_rfl) (by kernel_rfl) a r (Eq.trans (by kernel_rfl) h)⟩
def t_coresecref20_at : Tab Try.prog := ⟨tes, ses, fes, bes, [], [], fds, [], qes, ges, mes⟩
def h_coresecref20_at : Hint := (.s .n (.s (.s .n (.b (.l (.a 9 8) ⟨[], [1, 7, 8]⟩ (.s .n (.s (.c .n .n) (.s (.b (.s .n (.s .n (.c (.s .n .n) .n)))) .n)))))) (.s .n .n)))

def con_coresecref20_at : Con Try.prog := ⟨66, [.d (.sl P_api_Cached), .d (.sl (.int .u8))], [.d (.int .i64)], ⟨Try.f66, Try.func66, by kernel_rfl, by kernel_rfl⟩, m_coresecref20_at, fun a r h => mkM_ok (T := t_coresecref20_at) (N := 22) (own := []) (rng := [8]) (c := (codeOf Try.f66)) (h := h_coresecref20_at) (qs := [.tmp 4]) kMix Try.func66 (by kernel_rfl) (by kernel_rfl) (by kernel_rfl) (by kernel_rfl) a r (Eq.trans (by kernel_rfl) h)⟩
def t_coresecref20_Insert : Tab Try.prog := ⟨tes, ses, fes, bes, [con_coresecref20_Valid, con_coresecref20_keyed, con_coresecref20_Storable, con_coresecref20_Copy_o, con_coresecref15_Copy, con_coresecref20_MaxAge, con_coresecref20_at], [], fds, [], qes, ges, mes⟩
def h_coresecref20_Insert : Hint := (.s .n (.s (.b (.j ⟨[.d 16 .bool], [0, 1, 3, 6]⟩ false .n (.c (.s .n .n) (.s .n (.c (.s .n .n) .n))))) (.s .n (.s .n (.s .n (.s (.s .n (.s .n (.c (.s .n (.s .n .n)) .n))) (.j ⟨[.o 10 38 P_api_Cached], [11]⟩ false (.s .n (.c (.s .n (.s (.s .n (.b (.l (.n 68 67) ⟨[.d 13 (.int .i64)], [10, 11, 66, 67]⟩ (.s .n (.s (.c .n .n) (.j ⟨[.d 13 (.int .i64)], [10, 11, 66, 67, 68]⟩ false (.b (.s .n (.s .n (.c .n .n)))) .n)))))) .n)) .n)) (.s .n .n))))))))

def con_coresecref20_Insert : Con Try.prog := ⟨33, [.d (.sl P_api_Cached), .d (.sl (.int .u8)), .d P_api_Message, .d (.int .i64)], [.d (.sl P_api_Cached), .d (.int .i64)], ⟨Try.f33, Try.func33, by kernel_rfl, by kernel_rfl⟩, m_coresecref20_Insert, fun a r h => mkM_ok (T := t_coresecref20_Insert) (N := 96) (own := [86, 91]) (rng := []) (c := (codeOf Try.f33)) (h := h_coresecref20_Insert) (qs := [.tmp 8, .tmp 9]) kMix Try.func33 (by kernel_rfl) (by kernel_rfl) (by kernel_rfl) (by kernel_rfl) a r (Eq.trans (by kernel_rfl) h)⟩
def t_coreseclaw20_store : Tab Try.prog := ⟨tes, ses, fes, bes, [con_coresecmake_Deck_Next, con_coresecmake_Deck_Response, con_coresecref20_Insert], [], fds, [], qes, ges, mes⟩
def h_coreseclaw20_store : Hint := (.s .n (.s .n (.s .n (.s (.s .n (.b (.l .g ⟨[.d 4 (.sl P_api_Cached), .d 5 (.int .i64), .d 6 (.int .i64), .b 0 68 P_coresecmake_Deck], [0]⟩ (.s (.s .n (.c .n .n)) (.j ⟨[.d 4 (.sl P_api_Cached), .d 5 (.int .i64), .b 0 68 P_coresecmake_Deck], [0, 6]⟩ false (.b (.s .n (.s .n (.s .n (.c .n .n))))) .n))))) (.s .n .n)))))

def con_coreseclaw20_store : Con Try.prog := ⟨12, [.p 68 P_coresecmake_Deck], [.d (.sl P_api_Cached), .d (.int .i64)], ⟨Try.f12, Try.func12, by kernel_rfl, by kernel_rfl⟩, m_coreseclaw20_store, fun a r h => mkM_ok (T := t_coreseclaw20_store) (N := 36) (own := []) (rng := []) (c := (codeOf Try.f12)) (h := h_coreseclaw20_store) (qs := [.tmp 2, .tmp 3]) kMix Try.func12 (by kernel_rfl) (by kernel_rfl) (by kernel_rfl) (by kernel_rfl) a r (Eq.trans (by kernel_rfl) h)⟩
def t_coreseclaw20_CacheReads : Tab Try.prog := ⟨tes, ses, fes, bes, [con_coreseclaw20_light, con_coreseclaw20_awake, con_coresecmake_New, con_coresecmake_Deck_Response, con_coreseclaw20_store, con_coresecref20_Copy_o, con_coresecmake_Mod, con_cache_Valid, con_coresecref20_Valid, con_coresecref15_Valid, con_cache_MaxAge, con_coresecref20_MaxAge, con_cache_Storable, con_coresecref20_Storable], [], fds, [], qes, ges, mes⟩
def h_coreseclaw20_CacheReads : Hint := (.s .n (.s (.j ⟨[.d 25 .bool], [0, 2, 3, 5]⟩ false .n (.c (.s .n .n) .n)) (.s .n (.s .n (.s .n (.s .n (.j ⟨[], [0, 5, 10, 11, 13]⟩ true (.s .n (.c (.s .n (.s .n (.s .n (.c (.s .n .n) .n)))) .n)) (.s (.s .n (.b (.l (.a 64 63) ⟨[], [0, 11, 13, 62, 63]⟩ (.s .n (.s (.c .n .n) (.s (.b (.s .n (.j ⟨[.d 83 .bool], [0, 11, 13, 62, 63, 64]⟩ false .n (.c (.s .n .n) .n)))) .n)))))) (.j ⟨[.d 8 .bool], []⟩ false .n .n)))))))))

def con_coreseclaw20_CacheReads : Con Try.prog := ⟨3, [.d (.sl P_api_Cached), .d P_api_Message, .d (.sl (.int .i64)), .d (.int .i64)], [.d .bool], ⟨Try.f3, Try.func3, by kernel_rfl, by kernel_rfl⟩, m_coreseclaw20_CacheReads, fun a r h => mkM_ok (T := t_coreseclaw20_CacheReads) (N := 104) (own := [37]) (rng := [63]) (c := (codeOf Try.f3)) (h := h_coreseclaw20_CacheReads) (qs := [.tmp 8]) kMix Try.func3 (by kernel_rfl) (by kernel_rfl) (by kernel_rfl) (by kernel_rfl) a r (Eq.trans (by kernel_rfl) h)⟩
def t_coresecref20_Lookup : Tab Try.prog := ⟨tes, ses, fes, bes, [con_coresecref20_at, con_coresecref16_FromUint, con_coresecref16_Set], [], fds, [], qes, ges, mes⟩
def h_coresecref20_Lookup : Hint := (.s .n (.s .n (.s (.j ⟨[.d 37 .bool], [0, 2, 6, 8]⟩ false .n (.c (.s .n .n) .n)) (.s .n .n))))

def con_coresecref20_Lookup : Con Try.prog := ⟨26, [.d (.sl P_api_Cached), .d (.sl (.int .u8)), .d (.int .i64)], [.d P_api_Message, .d .bool], ⟨Try.f26, Try.func26, by kernel_rfl, by kernel_rfl⟩, m_coresecref20_Lookup, fun a r h => mkM_ok (T := t_coresecref20_Lookup) (N := 60) (own := []) (rng := []) (c := (codeOf Try.f26)) (h := h_coresecref20_Lookup) (qs := [.cell 6 26, .tmp 7]) kMix Try.func26 (by kernel_rfl) (by kernel_rfl) (by kernel_rfl) (by kernel_rfl) a r (Eq.trans (by kernel_rfl) h)⟩
def t_coresecref15_Same : Tab Try.prog := ⟨tes, ses, fes, bes, [], [], fds, [], qes, ges, mes⟩
def h_coresecref15_Same : Hint := (.s .n (.s (.j ⟨[.d 52 .bool], [2, 3]⟩ false .n (.c (.s .n .n) .n)) (.s (.s .n (.b (.l (.a 56 55) ⟨[], [3, 54, 55]⟩ (.s .n (.s (.c .n .n) (.s (.b (.s .n (.j ⟨[.d 82 .bool], [3, 54, 55, 56]⟩ false .n (.c (.s .n .n) .n)))) .n)))))) (.s .n .n))))

def con_coresecref15_Same : Con Try.prog := ⟨27, [.d P_api_Message, .d P_api_Message], [.d .bool], ⟨Try.f27, Try.func27, by kernel_rfl, by kernel_rfl⟩, m_coresecref15_Same, fun a r h => mkM_ok (T := t_coresecref15_Same) (N := 84) (own := []) (rng := [55]) (c := (codeOf Try.f27)) (h := h_coresecref15_Same) (qs := [.tmp 4]) kMix Try.func27 (by kernel_rfl) (by kernel_rfl) (by kernel_rfl) (by kernel_rfl) a r (Eq.trans (by kernel_rfl) h)⟩
def t_cache_Tag : Tab Try.prog := ⟨tes, ses, fes, bes, [con_cache_find, con_option_Get], [], fds, [], qes, ges, mes⟩
def h_cache_Tag : Hint := (.s .n (.s .n (.s (.s .n (.c (.s .n .n) .n)) (.s .n .n))))

def con_cache_Tag : Con Try.prog := ⟨28, [.d (.sl P_api_Cached), .d (.sl (.int .u8))], [.d (.sl (.int .u8)), .d .bool], ⟨Try.f28, Try.func28, by kernel_rfl, by kernel_rfl⟩, m_cache_Tag, fun a r h => mkM_ok (T := t_cache_Tag) (N := 20) (own := []) (rng := []) (c := (codeOf Try.f28)) (h := h_cache_Tag) (qs := [.tmp 4, .tmp 5]) kMix Try.func28 (by kernel_rfl) (by kernel_rfl) (by kernel_rfl) (by kernel_rfl) a r (Eq.trans (by kernel_rfl) h)⟩
def t_coresecref20_Tag : Tab Try.prog := ⟨tes, ses, fes, bes, [con_coresecref20_at, con_coresecref16_Get], [], fds, [], qes, ges, mes⟩
def h_coresecref20_Tag : Hint := (.s .n (.s .n (.s (.s .n (.c (.s .n .n) .n)) (.s .n .n))))

def con_coresecref20_Tag : Con Try.prog := ⟨29, [.d (.sl P_api_Cached), .d (.sl (.int .u8))], [.d (.sl (.int .u8)), .d .bool], ⟨Try.f29, Try.func29, by kernel_rfl, by kernel_rfl⟩, m_coresecref20_Tag, fun a r h => mkM_ok (T := t_coresecref20_Tag) (N := 20) (own := []) (rng := []) (c := (codeOf Try.f29)) (h := h_coresecref20_Tag) (qs := [.tmp 4, .tmp 5]) kMix Try.func29 (by kernel_rfl) (by kernel_rfl) (by kernel_rfl) (by kernel_rfl) a r (Eq.trans (by kernel_rfl) h)⟩
def t_cache_Remove : Tab Try.prog := ⟨tes, ses, fes, bes, [con_bytes_Equal, con_cache_element], [], fds, [], qes, ges, mes⟩
def h_cache_Remove : Hint := (.s .n (.b (.s .n (.s .n (.s (.s .n (.b (.l (.a 10 9) ⟨[.o 5 38 P_api_Cached], [1, 8, 9]⟩ (.s .n (.s (.c .n .n) (.j ⟨[.o 5 38 P_api_Cached], [1, 8, 9, 10]⟩ false (.b (.s .n (.s (.s .n (.c .n .n)) .n))) .n)))))) (.s .n .n))))))

def con_cache_Remove : Con Try.prog := ⟨31, [.d (.sl P_api_Cached), .d (.sl (.int .u8))], [.d (.sl P_api_Cached)], ⟨Try.f31, Try.func31, by kernel_rfl, by kernel_rfl⟩, m_cache_Remove, fun a r h => mkM_ok (T := t_cache_Remove) (N := 25) (own := [22]) (rng := [9]) (c := (codeOf Try.f31)) (h := h_cache_Remove) (qs := [.tmp 4]) kMix Try.func31 (by kernel_rfl) (by kernel_rfl) (by kernel_rfl) (by kernel_rfl) a r (Eq.trans (by kernel_rfl) h)⟩
def t_coresecref20_Remove : Tab Try.prog := ⟨tes, ses, fes, bes, [con_coresecref20_Copy, con_coresecref20_at], [], fds, [], qes, ges, mes⟩
def h_coresecref20_Remove : Hint := (.s .n (.s .n (.s (.s .n (.s .n (.c (.s .n .n) .n))) (.s .n .n))))

def con_coresecref20_Remove : Con Try.prog := ⟨32, [.d (.sl P_api_Cached), .d (.sl (.int .u8))], [.d (.sl P_api_Cached)], ⟨Try.f32, Try.func32, by kernel_rfl, by kernel_rfl⟩, m_coresecref20_Remove, fun a r h => mkM_ok (T := t_coresecref20_Remove) (N := 24) (own := [17]) (rng := []) (c := (codeOf Try.f32)) (h := h_coresecref20_Remove) (qs := [.tmp 4]) kMix Try.func32 (by kernel_rfl) (by kernel_rfl) (by kernel_rfl) (by kernel_rfl) a r (Eq.trans (by kernel_rfl) h)⟩
def t_coresecref20_Same : Tab Try.prog := ⟨tes, ses, fes, bes, [con_coresecref15_Same], [], fds, [], qes, ges, mes⟩
def h_coresecref20_Same : Hint := (.s .n (.s (.s .n (.c (.s .n .n) .n)) (.s (.s .n (.b (.l (.a 14 13) ⟨[], [1, 12, 13]⟩ (.s .n (.s (.c .n .n) (.s (.b (.s .n (.j ⟨[.d 59 .bool], [1, 12, 13, 14]⟩ false .n (.c (.s .n .n) .n)))) .n)))))) (.s .n .n))))

def con_coresecref20_Same : Con Try.prog := ⟨30, [.d (.sl P_api_Cached), .d (.sl P_api_Cached)], [.d .bool], ⟨Try.f30, Try.func30, by kernel_rfl, by kernel_rfl⟩, m_coresecref20_Same, fun a r h => mkM_ok (T := t_coresecref20_Same) (N := 61) (own := []) (rng := [13]) (c := (codeOf Try.f30)) (h := h_coresecref20_Same) (qs := [.tmp 4]) kMix Try.func30 (by kernel_rfl) (by kernel_rfl) (by kernel_rfl) (by kernel_rfl) a r (Eq.trans (by kernel_rfl) h)⟩
def t_coreseclaw20_CacheLooks : Tab Try.prog := ⟨tes, ses, fes, bes, [con_coresecmake_Short, con_coreseclaw20_awake, con_coresecmake_New, con_coreseclaw20_store, con_coresecmake_Mod, con_cache_Lookup, con_coresecref20_Lookup, con_coresecref15_Same, con_cache_Tag, con_coresecref20_Tag, con_cache_Remove, con_coresecref20_Remove, con_coresecref20_Same], [], fds, [], qes, ges, mes⟩
def h_coreseclaw20_CacheLooks : Hint := (.s .n (.s (.s .n (.c (.s .n .n) .n)) (.s .n (.s (.s .n (.b (.l (.a 40 39) ⟨[], [2, 7, 8, 38, 39]⟩ (.s .n (.s (.c .n .n) (.s (.b (.s .n (.s (.s .n (.b (.l (.a 54 53) ⟨[], [2, 7, 8, 10, 38, 39, 40, 52, 53]⟩ (.s .n (.s (.c .n .n) (.s (.b (.s .n (.s .n (.s .n (.j ⟨[.d 80 .bool], [2, 7, 8, 10, 38, 39, 40, 52, 53, 54]⟩ false .n (.c (.s .n .n) .n)))))) .n)))))) (.s .n (.s .n (.j ⟨[.d 113 .bool], [2, 7, 8, 38, 39, 40]⟩ false .n (.c (.s .n .n) .n))))))) .n)))))) (.s .n .n)))))

def con_coreseclaw20_CacheLooks : Con Try.prog := ⟨5, [.d (.sl (.int .i64)), .d (.sl (.int .u8)), .d (.int .i64)], [.d .bool], ⟨Try.f5, Try.func5, by kernel_rfl, by kernel_rfl⟩, m_coreseclaw20_CacheLooks, fun a r h => mkM_ok (T := t_coreseclaw20_CacheLooks) (N := 116) (own := []) (rng := [39, 53]) (c := (codeOf Try.f5)) (h := h_coreseclaw20_CacheLooks) (qs := [.tmp 6]) kMix Try.func5 (by kernel_rfl) (by kernel_rfl) (by kernel_rfl) (by kernel_rfl) a r (Eq.trans (by kernel_rfl) h)⟩
end
end Go.Proofs.Ytdiidghfmpobaaa
