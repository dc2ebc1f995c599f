/-
  The functions compute their models: what the evaluator gives is the model, by the kernel. No condition.
-/
import Derived.Test.YtllomdfckciedaaDoorMo
import Derived.Test.YtllomdfckciedaaDoorShelf
namespace Go.Proofs.YtllomdfckciedaaDoor
open Go.Gk Go.RowKit
noncomputable section
set_option maxRecDepth 100000
theorem kUnd_24 : Tryd.prog.underlying 24 = some (.slice 5) := by kernel_rfl
theorem kSl_24 : TySl Tryd.prog 24 5 1 1 (.int .u8 0) := ⟨by kernel_rfl, info_of (by kernel_rfl), by kernel_rfl, by decide⟩
theorem kZero_5 : TyZero Tryd.prog 5 (.int .u8 0) := fun w => by kernel_rfl
theorem c_bytes_Clone {lab : Lab} {w : World} {a0 : List UInt8} {r : List UInt8} (hm : m_bytes_Clone a0 = some r) (t : Top lab w) {oa : Option Addr} {c : Nat} (s : SL Rep.u8 lab w oa c a0) :
    Calls Tryd.prog 60 [.slice oa a0.length c].toArray w (fun e w' => ∃ (oa' : Option Addr) (c' : Nat), e = .returned (.slice oa' r.length c') ∧ Ste lab 0 w lab w' ∧ SL Rep.u8 lab w' oa' c' r ∧ True) := by
  have hm' : bnd (app ([] : List UInt8) a0) some = some r := by unfold m_bytes_Clone at hm; rw [hm]; rfl
  refine enter Tryd.func60 rfl 8 rfl rfl ?_
  refine CW.sub (G := [(0, .slice oa a0.length c)]) ⟨rfl, trivial⟩ ?_
  refine CW.seq ?_
  refine CW.region ?_
  refine LW.assign wn rfl rfl ?_
  refine LW.nil ?_
  refine EW.seq_n ?_
  refine CW.seq ?_
  refine CW.seq ?_
  refine CW.region ?_
  refine LW.move wn rfl rfl ?_
  refine LW.eqnil kUnd_24 wn rfl rfl rfl ?_
  refine LW.nil ?_
  refine EW.seq_n ?_
  refine CW.cond (b := oa.isNone) rfl (fun hb => ?_) (fun hb => ?_)
  · cases oa with
    | some _ => cases hb
    | none =>
      have h0 : a0 = [] := (SL.flat' s).1 rfl
      subst h0
      have hr : r = [] := by simp [app, bnd, LIM] at hm'; exact hm'
      subst hr
      refine CW.seq ?_
      refine CW.region ?_
      refine LW.assign wn rfl rfl ?_
      refine LW.nil ?_
      refine EW.seq_n ?_
      refine CW.ret ?_
      refine EW.seq_r ?_
      exact EW.ret1 rfl rfl ⟨none, 0, rfl, ⟨rfl, rfl, rfl, Nat.le_refl _, fun _ _ _ => rfl, fun _ _ => rfl, t⟩, SL.nil, trivial⟩
  · refine CW.skip ?_
    refine EW.seq_n ?_
    refine CW.seq ?_
    refine CW.region ?_
    have cx := Cx.start t
    replace s := s.keep Keeps.lin
    refine LW.buildOwn (k := 2) (ρ := Rep.u8) (vs := []) (css := []) (xs := []) rfl kSl_24 kZero_5 (by kernel_rfl) rfl rfl trivial cx.top wn rfl ?_
    intro oa1 c1 lab1 w1 e1 o1
    replace cx := cx.step e1 rfl; replace s := s.step e1
    refine LW.move wn rfl rfl ?_
    refine LW.append (ρ := Rep.u8) (xs := []) (ys := a0) hm' o1 (SL.flat' s) cx.top rfl kSl_24 rfl wn rfl rfl rfl ?_
    intro zs oa2 c2 lab2 w2 hz e2 o2
    cases hz
    replace cx := cx.step e2 rfl
    refine LW.assign wn rfl rfl ?_
    refine LW.nil ?_
    refine EW.seq_n ?_
    refine CW.ret ?_
    exact EW.ret1 rfl rfl ⟨_, _, rfl, cx.ste t, o2.sl (cx.keeps t) (cx.own0 t rfl), trivial⟩
theorem co_bytes_Clone {lab : Lab} {w : World} {a0 : List UInt8} {r : List UInt8} {k : Nat} (hm : m_bytes_Clone a0 = some r) (t : Top lab w) {oa : Option Addr} {c : Nat} (s : SL Rep.u8 lab w oa c a0) :
    Calls Tryd.prog 60 [.slice oa a0.length c].toArray w (fun e w' => ∃ (lab' : Lab) (oa' : Option Addr) (c' : Nat), e = .returned (.slice oa' r.length c') ∧ Ste lab 0 w lab' w' ∧ Own Rep.u8 lab' w' k 5 oa' c' r ∧ True) := by
  have hm' : bnd (app ([] : List UInt8) a0) some = some r := by unfold m_bytes_Clone at hm; rw [hm]; rfl
  refine enter Tryd.func60 rfl 8 rfl rfl ?_
  refine CW.sub (G := [(0, .slice oa a0.length c)]) ⟨rfl, trivial⟩ ?_
  refine CW.seq ?_
  refine CW.region ?_
  refine LW.assign wn rfl rfl ?_
  refine LW.nil ?_
  refine EW.seq_n ?_
  refine CW.seq ?_
  refine CW.seq ?_
  refine CW.region ?_
  refine LW.move wn rfl rfl ?_
  refine LW.eqnil kUnd_24 wn rfl rfl rfl ?_
  refine LW.nil ?_
  refine EW.seq_n ?_
  refine CW.cond (b := oa.isNone) rfl (fun hb => ?_) (fun hb => ?_)
  · cases oa with
    | some _ => cases hb
    | none =>
      have h0 : a0 = [] := (SL.flat' s).1 rfl
      subst h0
      have hr : r = [] := by simp [app, bnd, LIM] at hm'; exact hm'
      subst hr
      refine CW.seq ?_
      refine CW.region ?_
      refine LW.assign wn rfl rfl ?_
      refine LW.nil ?_
      refine EW.seq_n ?_
      refine CW.ret ?_
      refine EW.seq_r ?_
      exact EW.ret1 rfl rfl ⟨lab, none, 0, rfl, ⟨rfl, rfl, rfl, Nat.le_refl _, fun _ _ _ => rfl, fun _ _ => rfl, t⟩, Own.nil, trivial⟩
  · refine CW.skip ?_
    refine EW.seq_n ?_
    refine CW.seq ?_
    refine CW.region ?_
    have cx := Cx.start t
    replace s := s.keep Keeps.lin
    refine LW.buildOwn (k := 2) (ρ := Rep.u8) (vs := []) (css := []) (xs := []) rfl kSl_24 kZero_5 (by kernel_rfl) rfl rfl trivial cx.top wn rfl ?_
    intro oa1 c1 lab1 w1 e1 o1
    replace cx := cx.step e1 rfl; replace s := s.step e1
    refine LW.move wn rfl rfl ?_
    refine LW.append (ρ := Rep.u8) (xs := []) (ys := a0) hm' o1 (SL.flat' s) cx.top rfl kSl_24 rfl wn rfl rfl rfl ?_
    intro zs oa2 c2 lab2 w2 hz e2 o2
    cases hz
    replace cx := cx.step e2 rfl
    refine LW.assign wn rfl rfl ?_
    refine LW.nil ?_
    refine EW.seq_n ?_
    refine CW.ret ?_
    obtain ⟨lab_, ste_, own_⟩ := o2.out cx t rfl k
    exact EW.ret1 rfl rfl ⟨_, _, _, rfl, ste_, own_, trivial⟩

def con_bytes_Clone : Con Tryd.prog := ⟨60, [.d (.sl (.int .u8))], [.d (.sl (.int .u8))], ⟨Tryd.f60, Tryd.func60, by kernel_rfl, by kernel_rfl⟩, m_bytes_Clone, by
  intro a r h k kp gp lab w vs t _ _ hk hargs
  match vs, hargs with
  | [v], hargs =>
    obtain ⟨hd, _⟩ := hargs
    obtain ⟨oa, c, rfl, s⟩ := Dat.sl hd
    refine (c_bytes_Clone (a0 := a.1) (r := r) h t s).mono ?_
    rintro e w' ⟨oa', c', rfl, hs, s', _⟩
    exact ⟨lab, [_], rfl, hs.stp (.inr rfl), Dat.ofSl (t := .int .u8) s', trivial⟩⟩
def con_bytes_Clone_o : Con Tryd.prog := ⟨60, [.d (.sl (.int .u8))], [.o 5 (.int .u8)], ⟨Tryd.f60, Tryd.func60, by kernel_rfl, by kernel_rfl⟩, m_bytes_Clone, by
  intro a r h k kp gp lab w vs t _ _ hk hargs
  match vs, hargs with
  | [v], hargs =>
    obtain ⟨hd, _⟩ := hargs
    obtain ⟨oa, c, rfl, s⟩ := Dat.sl hd
    refine (co_bytes_Clone (a0 := a.1) (r := r) (k := k) h t s).mono ?_
    rintro e w' ⟨lab', oa', c', rfl, hs, o, _⟩
    exact ⟨lab', [_], rfl, hs.stp (.inr rfl), ⟨oa', c', rfl, o⟩, trivial⟩⟩

def t_option_owned : Tab Tryd.prog := ⟨tes, ses, fes, bes, [con_bytes_Clone], [15, 32], fds, [], qes, ges, mes⟩
def h_option_owned : Hint := (.s .n (.s .n (.s .n (.s (.s .n (.b (.l (.a 18 17) ⟨[.h 2 27 P_api_Message 4 74 P_api_Option], [2, 4, 16, 17]⟩ (.s .n (.s (.c .n .n) (.s (.b (.s .n .n)) .n)))))) (.s .n .n)))))

def con_option_owned : Con Tryd.prog := ⟨61, [.d P_api_Message, .d (.sl P_api_Option)], [.d P_api_Message], ⟨Tryd.f61, Tryd.func61, by kernel_rfl, by kernel_rfl⟩, m_option_owned, fun a r h => mkM_ok (T := t_option_owned) (N := 35) (own := [31]) (rng := [17]) (c := (codeOf Tryd.f61)) (h := h_option_owned) (qs := [.cell 4 27]) kMix Tryd.func61 (by kernel_rfl) (by kernel_rfl) (by kernel_rfl) (by kernel_rfl) a r (Eq.trans (by kernel_rfl) h)⟩
def t_option_Set : Tab Tryd.prog := ⟨tes, ses, fes, bes, [con_option_owned], [], fds, [], qes, ges, mes⟩
def h_option_Set : Hint := (.s .n (.s .n (.s (.s .n (.b (.l (.a 16 15) ⟨[.o 7 74 P_api_Option, .o 8 74 P_api_Option], [1, 2, 3, 6, 14, 15]⟩ (.s .n (.s (.c .n .n) (.j ⟨[.o 7 74 P_api_Option, .o 8 74 P_api_Option], [1, 2, 3, 6, 14, 15, 16]⟩ false (.b (.s .n (.b (.s .n (.c .n (.s .n (.c .n .n))))))) .n)))))) (.s (.s .n (.b (.l (.a 41 40) ⟨[.o 7 74 P_api_Option], [1, 3, 6, 8, 39, 40]⟩ (.s .n (.s (.c .n .n) (.s (.b (.s .n .n)) .n)))))) (.s .n .n)))))

def con_option_Set : Con Tryd.prog := ⟨30, [.d P_api_Message, .d (.int .i64), .d (.sl (.sl (.int .u8)))], [.d P_api_Message], ⟨Tryd.f30, Tryd.func30, by kernel_rfl, by kernel_rfl⟩, m_option_Set, fun a r h => mkM_ok (T := t_option_Set) (N := 57) (own := [28, 37, 50]) (rng := [15, 40]) (c := (codeOf Tryd.f30)) (h := h_option_Set) (qs := [.cell 6 27]) kMix Tryd.func30 (by kernel_rfl) (by kernel_rfl) (by kernel_rfl) (by kernel_rfl) a r (Eq.trans (by kernel_rfl) h)⟩
def t_option_Uint : Tab Tryd.prog := ⟨tes, ses, fes, bes, [], [], fds, [], qes, ges, mes⟩
def h_option_Uint : Hint := (.s .n (.s .n (.s (.s .n (.b (.l (.a 9 8) ⟨[.d 4 (.int .i64)], [7, 8]⟩ (.s .n (.s (.c .n .n) (.s (.b (.s .n (.s .n (.s .n (.c (.s .n .n) .n))))) .n)))))) (.s .n .n))))

def con_option_Uint : Con Tryd.prog := ⟨22, [.d (.sl (.int .u8))], [.d (.int .i64), .d (.int .i64)], ⟨Tryd.f22, Tryd.func22, by kernel_rfl, by kernel_rfl⟩, m_option_Uint, fun a r h => mkM_ok (T := t_option_Uint) (N := 22) (own := []) (rng := [8]) (c := (codeOf Tryd.f22)) (h := h_option_Uint) (qs := [.tmp 2, .tmp 3]) kMix Tryd.func22 (by kernel_rfl) (by kernel_rfl) (by kernel_rfl) (by kernel_rfl) a r (Eq.trans (by kernel_rfl) h)⟩

theorem maxLen_cell {lab : Lab} {w : World} (h : GL lab w) : ∃ m, w.cell? ⟨2, 0, none⟩ = some (.int .i64 m) := by
  obtain ⟨w0, hf, hg⟩ := h
  obtain ⟨m, hm⟩ : ∃ m, w0.cell? ⟨2, 0, none⟩ = some (.int .i64 m) := by first | exact hf | exact hf.1
  obtain ⟨_, _, h2⟩ := hg 2 (by decide)
  exact ⟨m, by rw [World.cell?_of_block (w := w0) (a := ⟨2, 0, none⟩) h2]; exact hm⟩
theorem c_strings_Split {lab : Lab} {w : World} (t : Top lab w) (gl : GL lab w) (s q : List UInt8) (hq : 0 < q.length) (hs : s.length < 4294967281) : Calls Tryd.prog 77 [strV s, strV q].toArray w fun e w' =>
    ∃ lab' v, e = .returned v ∧ Stp [] lab w lab' w' ∧ Dat (.sl .str) (Lib.split s q) lab' w' v := by
  obtain ⟨m, hm⟩ := maxLen_cell gl
  refine (Tryd.strings_Split ⟨s.toArray⟩ ⟨q.toArray⟩ m w (by rw [strV_size]; exact hs) hm (by rw [strV_size]; exact hq)).mono ?_
  rintro e w' ⟨rfl, rfl⟩
  have hl := Lib.splitB_all ⟨q.toArray⟩ (by rw [strV_size]; exact hq) 0 (Lib.countB ⟨s.toArray⟩ ⟨q.toArray⟩) ⟨s.toArray⟩ rfl
  have hc := Lib.countB_le ⟨q.toArray⟩ (by rw [strV_size]; exact hq) s.length ⟨s.toArray⟩ (by rw [strV_size]; exact Nat.le_refl _)
  rw [strV_size] at hc
  have hd := Lib.splitB_data ⟨q.toArray⟩ 0 (Lib.countB ⟨s.toArray⟩ ⟨q.toArray⟩) ⟨s.toArray⟩
  have hd : (Lib.splitB ⟨q.toArray⟩ 0 (Lib.countB ⟨s.toArray⟩ ⟨q.toArray⟩) ⟨s.toArray⟩).map (·.data.toList) = Lib.split s q := hd
  generalize Lib.splitB ⟨q.toArray⟩ 0 (Lib.countB ⟨s.toArray⟩ ⟨q.toArray⟩) ⟨s.toArray⟩ = cs at hl hd
  have hll : (Lib.split s q).length = cs.length := by rw [← hd, List.length_map]
  refine ⟨relab lab w.heap.size 0, _, rfl, (Ste.alloc t 0 _).stp (.inr rfl), ?_⟩
  rw [← hl, ← hll]
  refine Dat.ofSl (t := .str) ⟨Nat.le_refl _, by unfold maxLen; rw [hll, hl]; omega, fun i x hx => ?_⟩
  have hx : (Lib.split s q)[i]? = some x := hx
  rw [← hd, List.getElem?_map] at hx
  obtain ⟨y, hy, rfl⟩ := Option.map_eq_some_iff.1 hx
  refine ⟨_, [.string y], rfl, rfl, fun j u hu => ⟨?_, ?_⟩⟩
  · rw [block_add]; exact if_pos rfl
  · match j, hu with
    | 0, hu =>
      cases hu
      rw [add_zero', add_lit0, Nat.zero_add, show i * (rep .str).sz = i from Nat.mul_one i, cell_of_row _ w.heap.size _ _ _ (0, 0) (heap_alloc_new w _)]
      simp [hy]
def con_strings_Split : Con Tryd.prog := ⟨77, [.d .str, .d .str], [.d (.sl .str)], ⟨Tryd.f77, Tryd.func77, by kernel_rfl, by kernel_rfl⟩, m_strings_Split, by
  intro a r h k kp gp lab w vs t gl _ hk hargs
  match vs, hargs with
  | [v1, v2], hargs =>
    obtain ⟨h1, h2, _⟩ := hargs
    obtain rfl := Dat.str h1
    obtain rfl := Dat.str h2
    have h : m_strings_Split a.1 a.2.1 = some r := h
    unfold m_strings_Split at h
    cases hb : Nat.blt 0 (List.length (α := UInt8) a.2.1) && Nat.blt (List.length (α := UInt8) a.1) 4294967281 with
    | false => rw [hb] at h; cases h
    | true =>
      rw [hb] at h
      cases h
      rw [Bool.and_eq_true] at hb
      refine (c_strings_Split t gl a.1 a.2.1 (blt_lt hb.1) (blt_lt hb.2)).mono ?_
      rintro e w' ⟨lab', v, rfl, hs, hd⟩
      exact ⟨lab', [v], rfl, hs, hd, trivial⟩⟩


theorem c_strings_IndexByte (s : List UInt8) (c : UInt8) (w : World) : Calls Tryd.prog 82 [strV s, .int .u8 (c.toNat : Int)].toArray w fun e w' => e = .returned (.int .i64 (Lib.indexByte s c)) ∧ w' = w := by
  have h := Tryd.strings_IndexByte ⟨s.toArray⟩ (c.toNat : Int) w
  have e : ((c.toNat : Int)).toNat.toUInt8 = c := by simp
  rw [e] at h
  exact h
def con_strings_IndexByte : Con Tryd.prog := ⟨82, [.d .str, .d (.int .u8)], [.d (.int .i64)], ⟨Tryd.f82, Tryd.func82, by kernel_rfl, by kernel_rfl⟩, m_strings_IndexByte, by
  intro a r h k kp gp lab w vs t _ _ hk hargs
  match vs, hargs with
  | [v1, v2], hargs =>
    obtain ⟨h1, h2, _⟩ := hargs
    obtain rfl := Dat.str h1
    obtain rfl := Dat.int (k := .u8) h2
    have h : some (Lib.indexByte a.1 a.2.1) = some r := h
    cases h
    refine (c_strings_IndexByte a.1 a.2.1 w).mono ?_
    rintro e w' ⟨rfl, rfl⟩
    exact ⟨lab, [_], rfl, Stp.refl t, Dat.ofInt (k := .i64) _, trivial⟩⟩

def t_option_plain : Tab Tryd.prog := ⟨tes, ses, fes, bes, [con_strings_IndexByte], [], fds, [], qes, ges, mes⟩
def h_option_plain : Hint := (.s .n (.j ⟨[.d 2 .bool], []⟩ false .n .n))

def con_option_plain : Con Tryd.prog := ⟨58, [.d (.int .u8)], [.d .bool], ⟨Tryd.f58, Tryd.func58, by kernel_rfl, by kernel_rfl⟩, m_option_plain, fun a r h => mkM_ok (T := t_option_plain) (N := 30) (own := []) (rng := []) (c := (codeOf Tryd.f58)) (h := h_option_plain) (qs := [.tmp 2]) kMix Tryd.func58 (by kernel_rfl) (by kernel_rfl) (by kernel_rfl) (by kernel_rfl) a r (Eq.trans (by kernel_rfl) h)⟩
def t_option_segment : Tab Tryd.prog := ⟨tes, ses, fes, bes, [con_option_plain, con_strings_IndexByte], [], fds, [], qes, ges, mes⟩
def h_option_segment : Hint := (.s .n (.s .n (.s (.s .n (.b (.l .g ⟨[.o 4 5 (.int .u8), .d 5 (.int .i64)], [0]⟩ (.s (.s .n (.c .n .n)) (.j ⟨[.o 4 5 (.int .u8), .d 5 (.int .i64)], [0]⟩ true (.b (.s .n (.s (.s .n (.c (.s (.s .n (.c (.s .n .n) .n)) (.s .n .n)) .n)) (.s (.s .n (.c (.s .n .n) .n)) (.s .n (.s (.j ⟨[.d 55 .bool], [0, 4, 5, 7, 8]⟩ false .n (.c (.s .n .n) .n)) (.s .n .n))))))) .n))))) (.s .n .n))))

def con_option_segment : Con Tryd.prog := ⟨78, [.d .str], [.d (.sl (.int .u8)), .d .bool], ⟨Tryd.f78, Tryd.func78, by kernel_rfl, by kernel_rfl⟩, m_option_segment, fun a r h => mkM_ok (T := t_option_segment) (N := 67) (own := [26, 63]) (rng := []) (c := (codeOf Tryd.f78)) (h := h_option_segment) (qs := [.tmp 2, .tmp 3]) kMix Tryd.func78 (by kernel_rfl) (by kernel_rfl) (by kernel_rfl) (by kernel_rfl) a r (Eq.trans (by kernel_rfl) h)⟩
def t_option_segments : Tab Tryd.prog := ⟨tes, ses, fes, bes, [con_strings_Split, con_option_segment], [], fds, [], qes, ges, mes⟩
def h_option_segments : Hint := (.s .n (.s (.s .n (.c (.s .n .n) .n)) (.s (.s .n (.c (.s .n .n) .n)) (.s .n (.s (.s .n (.b (.l (.a 18 17) ⟨[.o 4 24 (.sl (.int .u8))], [16, 17]⟩ (.s .n (.s (.c .n .n) (.s (.b (.s .n (.s .n (.s (.s .n (.c (.s .n .n) .n)) .n)))) .n)))))) (.s .n .n))))))

def con_option_segments : Con Tryd.prog := ⟨54, [.d .str], [.d (.sl (.sl (.int .u8))), .d .bool], ⟨Tryd.f54, Tryd.func54, by kernel_rfl, by kernel_rfl⟩, m_option_segments, fun a r h => mkM_ok (T := t_option_segments) (N := 35) (own := [32]) (rng := [17]) (c := (codeOf Tryd.f54)) (h := h_option_segments) (qs := [.tmp 2, .tmp 3]) kMix Tryd.func54 (by kernel_rfl) (by kernel_rfl) (by kernel_rfl) (by kernel_rfl) a r (Eq.trans (by kernel_rfl) h)⟩
def t_coap_sound : Tab Tryd.prog := ⟨tes, ses, fes, bes, [], [], fds, [], qes, ges, mes⟩
def h_coap_sound : Hint := (.s .n (.s .n (.s (.j ⟨[.d 43 .bool], [1]⟩ false .n (.c (.s .n .n) .n)) (.s (.j ⟨[.d 63 .bool], [1]⟩ false .n (.c (.s .n .n) .n)) (.s .n (.s (.s .n (.b (.l (.a 67 66) ⟨[.d 4 (.int .i64)], [1, 65, 66]⟩ (.s .n (.s (.c .n .n) (.s (.b (.s .n (.s (.j ⟨[.d 85 .bool], [1, 6, 65, 66, 67]⟩ false .n (.c (.s .n .n) .n)) .n))) .n)))))) (.s (.j ⟨[.d 105 .bool], [1]⟩ false .n (.c (.s .n .n) .n)) (.j ⟨[.d 2 .bool], []⟩ false .n .n))))))))

def con_coap_sound : Con Tryd.prog := ⟨79, [.d P_api_Message], [.d .bool], ⟨Tryd.f79, Tryd.func79, by kernel_rfl, by kernel_rfl⟩, m_coap_sound, fun a r h => mkM_ok (T := t_coap_sound) (N := 120) (own := []) (rng := [66]) (c := (codeOf Tryd.f79)) (h := h_coap_sound) (qs := [.tmp 2]) kMix Tryd.func79 (by kernel_rfl) (by kernel_rfl) (by kernel_rfl) (by kernel_rfl) a r (Eq.trans (by kernel_rfl) h)⟩
def t_coap_parts : Tab Tryd.prog := ⟨tes, ses, fes, bes, [], [], fds, [], qes, ges, mes⟩
def h_coap_parts : Hint := (.s .n (.s (.b (.s .n (.c (.s .n .n) (.s .n (.c (.s .n .n) .n))))) (.s .n .n)))

def con_coap_parts : Con Tryd.prog := ⟨94, [.d (.int .i64)], [.d (.int .u8), .d (.sl (.int .u8))], ⟨Tryd.f94, Tryd.func94, by kernel_rfl, by kernel_rfl⟩, m_coap_parts, fun a r h => mkM_ok (T := t_coap_parts) (N := 24) (own := []) (rng := []) (c := (codeOf Tryd.f94)) (h := h_coap_parts) (qs := [.tmp 2, .tmp 3]) kMix Tryd.func94 (by kernel_rfl) (by kernel_rfl) (by kernel_rfl) (by kernel_rfl) a r (Eq.trans (by kernel_rfl) h)⟩
def t_coap_encode : Tab Tryd.prog := ⟨tes, ses, fes, bes, [con_coap_parts], [], fds, [], qes, ges, mes⟩
def h_coap_encode : Hint := (.s .n (.s .n (.s .n (.s .n (.s (.s .n (.b (.l (.a 38 37) ⟨[.o 3 5 (.int .u8), .d 4 (.int .i64)], [1, 36, 37]⟩ (.s .n (.s (.c .n .n) (.s (.b (.s .n (.s .n (.s .n (.s .n .n))))) .n)))))) (.j ⟨[.o 3 5 (.int .u8)], []⟩ false (.s .n (.c .n .n)) (.s .n .n)))))))

def con_coap_encode : Con Tryd.prog := ⟨80, [.d P_api_Message], [.d (.sl (.int .u8))], ⟨Tryd.f80, Tryd.func80, by kernel_rfl, by kernel_rfl⟩, m_coap_encode, fun a r h => mkM_ok (T := t_coap_encode) (N := 85) (own := [30, 34, 63, 65, 67, 70, 80, 83]) (rng := [37]) (c := (codeOf Tryd.f80)) (h := h_coap_encode) (qs := [.tmp 2]) kMix Tryd.func80 (by kernel_rfl) (by kernel_rfl) (by kernel_rfl) (by kernel_rfl) a r (Eq.trans (by kernel_rfl) h)⟩
def t_coap_Valid : Tab Tryd.prog := ⟨tes, ses, fes, bes, [con_coap_sound, con_coap_encode], [], fds, [], qes, ges, mes⟩
def h_coap_Valid : Hint := (.s .n (.j ⟨[.d 2 .bool], []⟩ false .n .n))

def con_coap_Valid : Con Tryd.prog := ⟨55, [.d P_api_Message], [.d .bool], ⟨Tryd.f55, Tryd.func55, by kernel_rfl, by kernel_rfl⟩, m_coap_Valid, fun a r h => mkM_ok (T := t_coap_Valid) (N := 11) (own := []) (rng := []) (c := (codeOf Tryd.f55)) (h := h_coap_Valid) (qs := [.tmp 2]) kMix Tryd.func55 (by kernel_rfl) (by kernel_rfl) (by kernel_rfl) (by kernel_rfl) a r (Eq.trans (by kernel_rfl) h)⟩
def t_option_SetPath : Tab Tryd.prog := ⟨tes, ses, fes, bes, [con_option_segments, con_option_Set, con_coap_Valid], [], fds, [], qes, ges, mes⟩
def h_option_SetPath : Hint := (.s .n (.s .n (.s (.s .n (.c (.s .n .n) .n)) (.s .n (.s (.s .n (.c (.s .n .n) .n)) (.s .n .n))))))

def con_option_SetPath : Con Tryd.prog := ⟨16, [.d P_api_Message, .d .str], [.d P_api_Message, .d (.int .i64)], ⟨Tryd.f16, Tryd.func16, by kernel_rfl, by kernel_rfl⟩, m_option_SetPath, fun a r h => mkM_ok (T := t_option_SetPath) (N := 25) (own := []) (rng := []) (c := (codeOf Tryd.f16)) (h := h_option_SetPath) (qs := [.cell 4 27, .tmp 5]) kMix Tryd.func16 (by kernel_rfl) (by kernel_rfl) (by kernel_rfl) (by kernel_rfl) a r (Eq.trans (by kernel_rfl) h)⟩

theorem pl_ok {lab : Lab} {w : World} (c : UInt8) (b : Bool) (h : m_option_plain c = some b) (t : Top lab w) (gl : GL lab w) : Calls Tryd.prog 58 [.int .u8 (c.toNat : Int)].toArray w fun e w' => ∃ lab', e = .returned (.bool b) ∧ Stp [] lab w lab' w' := by
  refine (con_option_plain.ok (c, ()) b h 3 3 0 lab w [.int .u8 (c.toNat : Int)] t gl (fun h => by cases h) (by decide) ⟨Dat.ofInt (k := .u8) c, trivial⟩).mono ?_
  rintro e w' ⟨lab', us, rfl, hs, hr⟩
  match us, hr with
  | [u], ⟨hb, _⟩ =>
    obtain rfl := Dat.bool hb
    exact ⟨lab', rfl, hs⟩
theorem run_eqptrnil {P : Program} {w : World} {T E : TypeId} {o : Option Addr} (hT : P.underlying T = some (.pointer E)) : (binOp .eql T (.pointer o) (.pointer none)).run P w = .ok (.bool o.isNone) w := by
  have h : ∀ d : Nat, (Op.equalIn (d + 1) T (.pointer o) (.pointer none)).run P w = .ok o.isNone w := fun d => by
    cases o <;> simp [Op.equalIn, run_underlying hT]
  simp only [binOp]
  have := h 9999
  simp only [Op.equal, Op.maxDepth, Sem.run_bind, this, Result.andThen_ok, Sem.run_pure]
theorem LW.ext {P : Program} {N : Nat} {ops : Array Oper} {rest : List Oper} {F : List (Nat × Value)} {w : World} {K : Kont} {d : Nat} {ty : TypeId} {pos : String} {af : Array Edge} {g : Option (Nat × Bool)} {f : FuncId} {xs : List Operand} {vs : List Value} {ts : Array TypeId} {v : Value}
    (hc : (callFunc f vs.toArray).run P w = .ok (.value v) w) (hw : Wn ops F g) (hdN : Nat.blt d N = true) (hx : evs F xs = some vs) (h : LW P N ops rest ((d, v) :: F) w K) :
    LW P N ops (⟨some d, .call { callee := .value (.func f), args := xs.toArray, argTypes := ts }, ty, pos, af, g⟩ :: rest) F w K :=
  LW.val rfl hw rfl hdN (fun a ha => by
    have e : (xs.toArray.map a.eval) = vs.toArray := by rw [List.map_toArray, ha.evals hx]
    simp only [execOp, resolve, e, Act.eval, Deferred.ofValue, invoke, Sem.run_bind, Sem.run_pure, Result.andThen_ok]
    simpa using hc) h
theorem LW.conv {P : Program} {N : Nat} {ops : Array Oper} {rest : List Oper} {F : List (Nat × Value)} {w : World} {K : Kont} {d : Nat} {ty : TypeId} {pos : String} {af : Array Edge} {g : Option (Nat × Bool)} {S T : TypeId} {x : Operand} {v u : Value}
    (hx : ev F x = some v) (hr : (convert S T v).run P w = .ok u w) (hw : Wn ops F g) (hdN : Nat.blt d N = true) (h : LW P N ops rest ((d, u) :: F) w K) :
    LW P N ops (⟨some d, .convert S T x, ty, pos, af, g⟩ :: rest) F w K :=
  LW.val rfl hw rfl hdN (fun q hq => by simp only [execOp, hq.eval hx, Sem.run_bind, hr, Result.andThen_ok, Sem.run_pure]) h
theorem noEscape_run {w : World} (v : Value) : (callFunc 95 [v].toArray).run Tryd.prog w = .ok (.value v) w := by
  rw [run_callFunc_extern Tryd.func95 (by kernel_rfl) (by kernel_rfl) (by kernel_rfl) (e := Extern.AbiNoEscape.same) (by kernel_rfl)]
  rfl
theorem uB : Tryd.prog.underlying 75 = some (.pointer 77) := by kernel_rfl
theorem uU : Tryd.prog.underlying 114 = some .unsafePointer := by kernel_rfl
theorem kOneB : TyOne Tryd.prog 75 := ⟨fun w => by kernel_rfl, fun w => by kernel_rfl⟩
theorem kOneS : TyOne Tryd.prog 24 := ⟨fun w => by kernel_rfl, fun w => by kernel_rfl⟩
theorem kFB0 : TyFld Tryd.prog 77 0 0 := fun w a => by kernel_rfl
theorem kFB1 : TyFld Tryd.prog 77 1 1 := fun w a => by kernel_rfl
theorem iB : ∃ j, Tryd.prog.info? 77 = some j ∧ j.size = 2 := by
  have h : (Tryd.prog.info? 77).map (fun i => i.size) = some 2 := by kernel_rfl
  obtain ⟨j, hj, he⟩ := Option.map_eq_some_iff.1 h
  exact ⟨j, hj, he⟩
theorem liesB : liesAt Tryd.prog Tryd.prog.depth 77 (2 / Tryd.prog.cellsOf 77) 0 77 1 = true := by kernel_rfl
theorem endn {P : Program} {N : Nat} {F : List (Nat × Value)} {w : World} {fn : Func} {R : Ending → World → Prop} (hr : fn.results = #[]) (h : R (.returned (.tuple #[])) w) : EW N .normal F w (bodyPost P fn R) := LW.ret_nil (fn := fn) (P := P) hr h
/-- copyCheck: behind it the builder bears its own address. -/
theorem c_copyCheck {lab : Lab} {w : World} {g : Nat} {p s : Value} (t : Top lab w) (b : Box lab w 3 g 77 [p, s]) (hp : p = .pointer none ∨ p = .pointer (some ⟨g, 0, none⟩)) :
    Calls Tryd.prog 81 [.pointer (some ⟨g, 0, none⟩)].toArray w fun e w' => e = .returned (.tuple #[]) ∧ Ste lab 3 w lab w' ∧ Box lab w' 3 g 77 [.pointer (some ⟨g, 0, none⟩), s] := by
  obtain ⟨j, hj, hjs⟩ := iB
  refine enter Tryd.func81 rfl 20 rfl rfl ?_
  refine CW.sub (G := [(0, .pointer (some ⟨g, 0, none⟩))]) ⟨rfl, trivial⟩ ?_
  refine CW.seq ?_
  refine CW.region ?_
  refine LW.move wn rfl rfl ?_
  refine LW.nilCheck wn rfl rfl ?_
  refine LW.fldB 0 kFB0 rfl wn rfl rfl ?_
  refine LW.loadB1 b kOneB rfl wn rfl rfl ?_
  rcases hp with rfl | rfl
  · refine LW.val (v := .bool true) rfl wn rfl rfl (fun _ ha => run_bin _ _ _ (ha.eval rfl) (ha.eval rfl) rfl (run_eqptrnil uB)) ?_
    refine LW.nil ?_
    refine EW.seq_n ?_
    refine CW.cond_t rfl ?_
    have hsh : w.shape? g = some (77, 2) := by unfold World.shape?; rw [b.1]; rfl
    refine CW.region ?_
    refine LW.move wn rfl rfl ?_
    refine LW.move wn rfl rfl ?_
    refine LW.conv rfl (Lib.run_to_unsafe w ⟨g, 0, none⟩ uB uU hj (by rw [hjs]; decide) hsh (Nat.zero_lt_succ 1)) wn rfl ?_
    refine LW.ext (noEscape_run _) wn rfl rfl ?_
    refine LW.conv rfl (Lib.run_from_unsafe w ⟨g, 0, none⟩ uU uB hj hsh liesB) wn rfl ?_
    refine LW.nilCheck wn rfl rfl ?_
    refine LW.fldB 0 kFB0 rfl wn rfl rfl ?_
    refine LW.storeB1 [.pointer (some ⟨g, 0, none⟩), s] b t rfl kOneB rfl rfl rfl rfl wn rfl rfl fun w' hs hb => ?_
    refine LW.nil ?_
    exact endn rfl ⟨rfl, hs, hb⟩
  · refine LW.val (v := .bool false) rfl wn rfl rfl (fun _ ha => run_bin _ _ _ (ha.eval rfl) (ha.eval rfl) rfl (run_eqptrnil uB)) ?_
    refine LW.nil ?_
    refine EW.seq_n ?_
    refine CW.cond_f rfl ?_
    refine CW.seq ?_
    refine CW.region ?_
    refine LW.move wn rfl rfl ?_
    refine LW.nilCheck wn rfl rfl ?_
    refine LW.fldB 0 kFB0 rfl wn rfl rfl ?_
    refine LW.loadB1 b kOneB rfl wn rfl rfl ?_
    refine LW.move wn rfl rfl ?_
    refine LW.val (v := .bool false) rfl wn rfl rfl (fun _ ha => run_bin _ _ _ (ha.eval rfl) (ha.eval rfl) rfl (Lib.run_neq_ptr_same w _ uB hj)) ?_
    refine LW.nil ?_
    refine EW.seq_n ?_
    refine CW.cond_f rfl ?_
    refine CW.skip ?_
    exact endn rfl ⟨rfl, ⟨rfl, rfl, rfl, Nat.le_refl _, fun _ _ _ => rfl, fun _ _ => rfl, t⟩, b⟩

/-- A builder of the call's own: its block bears label 3, its bytes' row label 4. -/
def BLD (lab : Lab) (w : World) (g : Nat) (p : Value) (l : List UInt8) : Prop := ∃ oa c, Box lab w 3 g 77 [p, .slice oa l.length c] ∧ Own Rep.u8 lab w 4 5 oa c l
theorem BLD.stp {lab lab' : Lab} {w w' : World} {g : Nat} {p : Value} {l : List UInt8} {ks : List Nat} (h : BLD lab w g p l) (s : Stp ks lab w lab' w') (h3 : ks.contains 3 = false) (h4 : ks.contains 4 = false) : BLD lab' w' g p l := by
  obtain ⟨oa, c, hb, ho⟩ := h
  exact ⟨oa, c, hb.stp s h3, ho.ke s.ke ke_no0 (ke_no h4)⟩
theorem app_fit {l : List UInt8} {c : UInt8} (hl : l.length + 1 ≤ LIM) : bnd (app l [c]) some = some (l ++ [c]) := by
  unfold app
  rw [if_pos (by simpa using hl)]
  rfl
/-- WriteByte. -/
theorem c_WriteByte {lab : Lab} {w : World} {g : Nat} {p : Value} {l : List UInt8} {c : UInt8} (t : Top lab w) (b : BLD lab w g p l) (hp : p = .pointer none ∨ p = .pointer (some ⟨g, 0, none⟩)) (hl : l.length + 1 ≤ LIM) :
    Calls Tryd.prog 57 [.pointer (some ⟨g, 0, none⟩), .int .u8 (c.toNat : Int)].toArray w fun e w' => e = .returned .nilIface ∧ ∃ lab', Stp [3, 4] lab w lab' w' ∧ BLD lab' w' g (.pointer (some ⟨g, 0, none⟩)) (l ++ [c]) := by
  obtain ⟨oa, cc, hb, ho⟩ := b
  refine enter Tryd.func57 rfl 17 rfl rfl ?_
  refine CW.sub (G := [(0, .pointer (some ⟨g, 0, none⟩)), (1, .int .u8 (c.toNat : Int))]) ⟨rfl, rfl, trivial⟩ ?_
  refine CW.seq ?_
  refine CW.region ?_
  refine LW.assign wn rfl rfl ?_
  refine LW.nil ?_
  refine EW.seq_n ?_
  refine CW.seq ?_
  refine CW.region ?_
  refine LW.move wn rfl rfl ?_
  refine LW.call ⟨Tryd.f81, Tryd.func81, by kernel_rfl, by kernel_rfl⟩ (c_copyCheck t hb hp) wn rfl rfl ?_
  rintro e w1 ⟨rfl, hs1, hb1⟩
  refine ⟨_, rfl, ?_⟩
  have ho1 := ho.step hs1 rfl
  have t1 := hs1.top
  refine LW.nil ?_
  refine EW.seq_n ?_
  refine CW.seq ?_
  refine CW.region ?_
  refine LW.move wn rfl rfl ?_
  refine LW.move wn rfl rfl ?_
  refine LW.nilCheck wn rfl rfl ?_
  refine LW.fldB 1 kFB1 rfl wn rfl rfl ?_
  refine LW.loadB1 hb1 kOneS rfl wn rfl rfl ?_
  refine LW.move wn rfl rfl ?_
  refine LW.buildOwn (k := 5) (ρ := Rep.u8) (vs := [(0, .int .u8 (c.toNat : Int))]) (css := [[.int .u8 (c.toNat : Int)]]) (xs := [c]) rfl kSl_24 kZero_5 (by kernel_rfl) rfl rfl ⟨rfl, trivial⟩ t1 wn rfl ?_
  intro oa5 c5 lab2 w2 hs2 ho5
  refine LW.append (ρ := Rep.u8) (app_fit hl) (ho1.step hs2 rfl) ho5.flat hs2.top rfl kSl_24 rfl wn rfl rfl rfl ?_
  intro zs oa6 c6 lab3 w3 hz hs3 ho6
  cases hz
  have hb3 := (hb1.step hs2 rfl).step hs3 rfl
  refine LW.nilCheck wn rfl rfl ?_
  refine LW.fldB 1 kFB1 rfl wn rfl rfl ?_
  refine LW.storeB1 [.pointer (some ⟨g, 0, none⟩), .slice oa6 (l ++ [c]).length c6] hb3 hs3.top rfl kOneS rfl rfl rfl rfl wn rfl rfl fun w4 hs4 hb4 => ?_
  refine LW.nil ?_
  refine EW.seq_n ?_
  refine CW.seq ?_
  refine CW.region ?_
  refine LW.assign wn rfl rfl ?_
  refine LW.nil ?_
  refine EW.seq_n ?_
  refine CW.ret ?_
  have m : ∀ q, q = 3 ∨ q = 4 ∨ q = 0 → ∀ k, ([q] : List Nat).contains k = true → ([3, 4] : List Nat).contains k = true ∨ k = 0 := fun q hq k hk => by
    simp at hk
    rcases hq with rfl | rfl | rfl <;> subst hk <;> simp
  exact EW.ret1 rfl rfl ⟨rfl, lab3, (((hs1.stp (ks := [3, 4]) (.inl rfl)).trans (hs2.stp (ks := [3, 4]) (.inr rfl))).trans (hs3.stp (ks := [3, 4]) (.inl rfl))).trans (hs4.stp (ks := [3, 4]) (.inl rfl)), oa6, c6, hb4, ho6.step hs4 rfl⟩
/-- String. -/
theorem c_String {lab0 lab : Lab} {w0 w : World} {g : Nat} {p : Value} {l : List UInt8} (t : Top lab0 w0) (cx : Cx [] w0 lab0 w lab) (b : BLD lab w g p l) (hp : p = .pointer none ∨ p = .pointer (some ⟨g, 0, none⟩)) :
    Calls Tryd.prog 59 [.pointer (some ⟨g, 0, none⟩)].toArray w fun e w' => e = .returned (strV l) ∧ Stp [] lab0 w0 lab0 w' := by
  obtain ⟨oa, c, hb, css, ha, ho⟩ := b
  have low : ∀ q, 3 ≤ lab q → w0.heap.size ≤ q := fun q hq => by
    rcases Nat.lt_or_ge q w0.heap.size with h | h
    · have h1 := cx.low q h (by simp)
      have h2 := lin_le lab0 q
      omega
    · exact h
  have hcs : css.flatten = Lib.byteCells l := by
    clear ho hb
    induction css generalizing l with
    | nil => cases l with
      | nil => rfl
      | cons _ _ => cases ha
    | cons cs css ih => cases l with
      | nil => cases ha
      | cons x l =>
        obtain ⟨h1, h2⟩ := ha
        have h1 : cs = [.int .u8 (x.toNat : Int)] := h1
        rw [List.flatten_cons, ih h2, h1]
        rfl
  have hI : Lib.IsBuilderF 77 5 w0.heap.size g (Lib.byteCells l) w := by
    have key : ∀ q, q = p → Lib.BuilderAtF 77 5 w0.heap.size g q (Lib.byteCells l) w := fun q hq => by
      subst hq
      have hn : (Lib.byteCells l).length = l.length := by simp [Lib.byteCells]
      refine ⟨low g (by rw [hb.2]; decide), .slice oa l.length c, hb.1, ⟨by simp [hn], ?_⟩, ?_⟩
      · rcases ho with ⟨h1, h2, h3⟩ | ⟨g', cur, h1, h2, h3, h4, h5, h6, h7⟩
        · subst h1 h2 h3
          exact .inl ⟨rfl, rfl⟩
        · subst h1
          refine .inr ⟨g', c, cur, (0, 0), by rw [hn], low g' (by rw [h7]; decide), h2, Nat.zero_le _, by rw [hn]; exact h3, h4, h5, ?_⟩
          rw [hn]
          exact h6.trans hcs
      · rcases ho with ⟨h1, h2, h3⟩ | ⟨g', cur, h1, h2, h3, h4, h5, h6, h7⟩
        · subst h1; intro h; cases h
        · subst h1
          intro h
          have h : some g' = some g := h
          cases h
          have := hb.2
          rw [h7] at this
          cases this
    rcases hp with hp | hp
    · exact .inl (key _ hp.symm)
    · exact .inr (key _ hp.symm)
  refine (Tryd.Builder_String_any_k w0.heap.size g l w hI cx.size).mono ?_
  rintro e w' ⟨rfl, _, hB, _⟩
  exact ⟨rfl, hB.os.trans cx.os, hB.tape.trans cx.tape, hB.output.trans cx.output, Nat.le_trans cx.size hB.size, fun b hlt _ => (hB.block b hlt).trans (cx.block b hlt (by simp)), fun _ _ _ => rfl, fun b h => t b (Nat.le_trans (Nat.le_trans cx.size hB.size) h)⟩
theorem shr4_run {P : Program} {w : World} {T : TypeId} (c : UInt8) : (binOp .shr T (.int .u8 (c.toNat : Int)) (.int .u64 4)).run P w = .ok (.int .u8 ((c.toNat / 16 : Nat) : Int)) w := by
  have hr : Res (binI .shr .u8 c .u64 (4 : UInt64)) (o1 (.dat (.int .u8) (toU8 ((UInt8.toNat c : Int) / 2 ^ min (4 : Int).toNat 8)))) := .bnd (m := shrK .u8 c 4) rfl .ret
  obtain ⟨v, sv, h1, h2, h3⟩ := binI_ok (P := P) (w := w) (t := T) (e := fun _ => ⟨none, 0, 0, 0, 0, .un, []⟩) (lab := fun _ => 0) hr
  obtain rfl : sv = _ := (congrArg Out.sv h1).symm
  obtain rfl := Dat.int (k := .u8) h2
  refine h3.trans ?_
  have e : (toI .u8 (toU8 ((UInt8.toNat c : Int) / 2 ^ min (4 : Int).toNat 8)) : Int) = ((c.toNat / 16 : Nat) : Int) := by
    have h := c.toNat_lt
    show ((toU8 ((UInt8.toNat c : Int) / 2 ^ 4)).toNat : Int) = _
    rw [show ((UInt8.toNat c : Int) / 2 ^ 4) = ((c.toNat / 16 : Nat) : Int) by omega, toU8_nat, UInt8.toNat_ofNat']
    omega
  rw [e]
theorem and15_all : ∀ n : Fin 256, (toU8 (bits .and .u8 (n.val : Int) 15)).toNat = n.val % 16 := by decide +kernel
theorem and15_run {P : Program} {w : World} {T : TypeId} (c : UInt8) : (binOp .and T (.int .u8 (c.toNat : Int)) (.int .u8 15)).run P w = .ok (.int .u8 ((c.toNat % 16 : Nat) : Int)) w := by
  have hr : Res (binI .and .u8 c .u8 (15 : UInt8)) (o1 (.dat (.int .u8) (bitK .and .u8 c (15 : UInt8)))) := .letm .ret
  obtain ⟨v, sv, h1, h2, h3⟩ := binI_ok (P := P) (w := w) (t := T) (e := fun _ => ⟨none, 0, 0, 0, 0, .un, []⟩) (lab := fun _ => 0) hr
  obtain rfl : sv = _ := (congrArg Out.sv h1).symm
  obtain rfl := Dat.int (k := .u8) h2
  refine h3.trans ?_
  have e : ((toU8 (bits .and .u8 (UInt8.toNat c : Int) 15)).toNat : Int) = ((c.toNat % 16 : Nat) : Int) := by
    have := and15_all ⟨c.toNat, c.toNat_lt⟩
    exact congrArg Int.ofNat this
  exact congrArg (fun z => Result.ok (Value.int .u8 z) w) e
theorem hexd_some {n : Nat} (h : n < 16) : ([48, 49, 50, 51, 52, 53, 54, 55, 56, 57, 65, 66, 67, 68, 69, 70] : List UInt8)[((n : Nat) : Int).toNat]? = some (hexd n) := by
  have : ∀ m : Fin 16, ([48, 49, 50, 51, 52, 53, 54, 55, 56, 57, 65, 66, 67, 68, 69, 70] : List UInt8)[m.val]? = some (hexd m.val) := by decide
  rw [Int.toNat_natCast]
  exact this ⟨n, h⟩
theorem uS : Tryd.prog.underlying 9 = some .string := by kernel_rfl
theorem kAggO : TyAgg Tryd.prog 74 2 := ⟨fun w => by kernel_rfl, fun w => by kernel_rfl⟩
theorem kZeroO : TyZero Tryd.prog 74 (zv P_api_Option) := fun w => by kernel_rfl
theorem kZeroB : TyZero Tryd.prog 77 (.agg #[.pointer none, .slice none 0 0]) := fun w => by kernel_rfl
theorem kSlO : TySl Tryd.prog 25 74 (rep P_api_Option).sz 32 (zv P_api_Option) := ⟨by kernel_rfl, info_of (by kernel_rfl), by kernel_rfl, by decide⟩
theorem kFM : TyFld Tryd.prog 27 4 4 := fun w a => by kernel_rfl
theorem kFO0 : TyFld Tryd.prog 74 0 0 := fun w a => by kernel_rfl
theorem kFO1 : TyFld Tryd.prog 74 1 1 := fun w a => by kernel_rfl
theorem kOneO : TyOne Tryd.prog 25 := ⟨fun w => by kernel_rfl, fun w => by kernel_rfl⟩
theorem kOneI : TyOne Tryd.prog 3 := ⟨fun w => by kernel_rfl, fun w => by kernel_rfl⟩
theorem kOneU : TyOne Tryd.prog 5 := ⟨fun w => by kernel_rfl, fun w => by kernel_rfl⟩
def selfP (g : Nat) (p : Value) : Prop := p = .pointer none ∨ p = .pointer (some ⟨g, 0, none⟩)
theorem kWB : Fn? Tryd.prog 57 := ⟨Tryd.f57, Tryd.func57, by kernel_rfl, by kernel_rfl⟩
theorem kST : Fn? Tryd.prog 59 := ⟨Tryd.f59, Tryd.func59, by kernel_rfl, by kernel_rfl⟩
theorem kPL : Fn? Tryd.prog 58 := ⟨Tryd.f58, Tryd.func58, by kernel_rfl, by kernel_rfl⟩
/-- What stands through the loops. -/
structure PI (w0 : World) (lab0 : Lab) (g : Nat) (oa : Option Addr) (c : Nat) (xs : List S_api_Option) (l : List UInt8) (p : Value) (lab : Lab) (w : World) : Prop where
  cx : Cx [] w0 lab0 w lab
  sl : SL (rep P_api_Option) lab w oa c xs
  bl : BLD lab w g p l
  sf : selfP g p
theorem PI.stp {w0 : World} {lab0 : Lab} {g : Nat} {oa : Option Addr} {c : Nat} {xs : List S_api_Option} {l : List UInt8} {p : Value} {lab lab' : Lab} {w w' : World} {ks : List Nat} (h : PI w0 lab0 g oa c xs l p lab w) (s : Stp ks lab w lab' w') (h1 : ks.contains 1 = false) (h3 : ks.contains 3 = false) (h4 : ks.contains 4 = false) : PI w0 lab0 g oa c xs l p lab' w' :=
  ⟨h.cx.stp s h1, h.sl.keep s.keeps, h.bl.stp s h3 h4, h.sf⟩
section
variable {w0 : World} {lab0 : Lab} {g : Nat} {oa : Option Addr} {c : Nat} {xs : List S_api_Option} {l : List UInt8} {p : Value} {lab : Lab} {w : World}
variable {N : Nat} {ops : Array Oper} {rest : List Oper} {F : List (Nat × Value)} {K : Kont} {d : Nat} {ty : TypeId} {pos : String} {af : Array Edge} {gg : Option (Nat × Bool)} {x y : Operand} {ts : Array TypeId} {b : UInt8}
/-- A byte is written. -/
theorem LW.wb (h : PI w0 lab0 g oa c xs l p lab w) (hl : l.length + 1 ≤ LIM) (hw : Wn ops F gg) (hdN : Nat.blt d N = true) (hx : evs F [x, y] = some [.pointer (some ⟨g, 0, none⟩), .int .u8 (b.toNat : Int)])
    (hk : ∀ lab' w', Stp [3, 4] lab w lab' w' → PI w0 lab0 g oa c xs (l ++ [b]) (.pointer (some ⟨g, 0, none⟩)) lab' w' → LW Tryd.prog N ops rest ((d, .nilIface) :: F) w' K) :
    LW Tryd.prog N ops (⟨some d, .call { callee := .value (.func 57), args := [x, y].toArray, argTypes := ts }, ty, pos, af, gg⟩ :: rest) F w K := by
  refine LW.call kWB (c_WriteByte (c := b) h.cx.top h.bl h.sf hl) hw hdN hx ?_
  rintro e w' ⟨rfl, lab', s, hb⟩
  exact ⟨_, rfl, hk lab' w' s ⟨h.cx.stp s rfl, h.sl.keep s.keeps, hb, .inr rfl⟩⟩
/-- The class of a byte is asked. -/
theorem LW.pl {bb : Bool} (h : PI w0 lab0 g oa c xs l p lab w) (t : Top lab0 w0) (gl : GL lab0 w0) (hm : m_option_plain b = some bb) (hw : Wn ops F gg) (hdN : Nat.blt d N = true) (hx : evs F [x] = some [.int .u8 (b.toNat : Int)])
    (hk : ∀ lab' w', Stp [] lab w lab' w' → LW Tryd.prog N ops rest ((d, .bool bb) :: F) w' K) :
    LW Tryd.prog N ops (⟨some d, .call { callee := .value (.func 58), args := [x].toArray, argTypes := ts }, ty, pos, af, gg⟩ :: rest) F w K := by
  have gl' : GL lab w := by
    obtain ⟨wg, h0, h1⟩ := gl
    refine ⟨wg, h0, fun q hq => ?_⟩
    obtain ⟨a1, a2, a3⟩ := h1 q hq
    refine ⟨Nat.lt_of_lt_of_le a1 h.cx.size, ?_, (h.cx.block q a1 (by simp)).trans a3⟩
    rw [h.cx.low q a1 (by simp)]
    unfold lin; rw [a2]; rfl
  refine LW.call kPL (pl_ok b bb hm h.cx.top gl') hw hdN hx ?_
  rintro e w' ⟨lab', rfl, s⟩
  exact ⟨_, rfl, hk lab' w' s⟩
end
theorem LW.ixS {P : Program} {N : Nat} {ops : Array Oper} {rest : List Oper} {F : List (Nat × Value)} {w : World} {K : Kont} {d : Nat} {ty : TypeId} {pos : String} {af : Array Edge} {g : Option (Nat × Bool)} {T : TypeId} {x y : Operand} {l : List UInt8} {k : IntKind} {i : Int} {c : UInt8}
    (hx : ev F x = some (strV l)) (hy : ev F y = some (.int k i)) (hT : P.underlying T = some .string) (h0 : 0 ≤ i) (hc : l[i.toNat]? = some c) (hw : Wn ops F g) (hdN : Nat.blt d N = true) (h : LW P N ops rest ((d, .int .u8 (c.toNat : Int)) :: F) w K) :
    LW P N ops (⟨some d, .index T x y, ty, pos, af, g⟩ :: rest) F w K :=
  LW.val rfl hw rfl hdN (fun q hq => by simp only [execOp, hq.eval hx, hq.eval hy, Sem.run_bind, run_indexS hT l h0 hc, Result.andThen_ok, Sem.run_pure]) h
theorem c_Path {lab : Lab} {w : World} {a0 : S_api_Message} {r : List UInt8} {v : Value} (hm : m_option_Path a0 = some r) (t : Top lab w) (gl : GL lab w) (hv : Dat P_api_Message a0 lab w v) :
    Calls Tryd.prog 19 [v].toArray w fun e w' => e = .returned (strV r) ∧ Stp [] lab w lab w' := by
  obtain ⟨z, hz, hm⟩ := bnd_some hm
  have hzr : z = r ∧ z.length ≤ LIM := by
    cases hb : Nat.ble z.length LIM with
    | false => rw [hb] at hm; cases hm
    | true => rw [hb] at hm; cases hm; exact ⟨rfl, Nat.le_of_ble_eq_true hb⟩
  obtain ⟨rfl, hlim⟩ := hzr
  obtain ⟨cs, rfl, hrd⟩ := Dat.st hv
  obtain ⟨q1, r1, e1, h1, hrd⟩ := hrd
  obtain ⟨q2, r2, e2, h2, hrd⟩ := hrd
  obtain ⟨q3, r3, e3, h3, hrd⟩ := hrd
  obtain ⟨q4, r4, e4, ⟨oa3, c3, h4, s3⟩, hrd⟩ := hrd
  obtain ⟨q5, r5, e5, ⟨oa4, c4, h5, s4⟩, ⟨oa5, c5, h6, s5⟩⟩ := hrd
  have h1 : q1 = [.int .i64 a0.1] := h1
  have h2 : q2 = [.int .i64 a0.2.1] := h2
  have h3 : q3 = [.int .i64 a0.2.2.1] := h3
  subst h1 h2 h3 h4 h5 h6 e5 e4 e3 e2 e1
  generalize hxs : (a0.2.2.2.2.1 : List S_api_Option) = xs at hz
  have hxs' : a0.2.2.2.2.1 = xs := hxs
  rw [hxs'] at s4
  have s4 : SL (rep P_api_Option) lab w oa4 c4 xs := s4
  clear s3 s5 hv
  have cx := Cx.start t
  replace s4 := s4.keep Keeps.lin
  refine enter Tryd.func19 rfl 42 rfl rfl ?_
  refine CW.seq ?_
  refine CW.region ?_
  refine LW.box 6 _ rfl rfl cx.top wn rfl ?_
  intro G0 lab1 w1 hs1 hb1
  replace cx := cx.step hs1 rfl; replace s4 := s4.step hs1
  refine LW.assign wn rfl rfl ?_
  refine LW.nil ?_
  refine EW.seq_n ?_
  refine CW.seq ?_
  refine CW.region ?_
  refine LW.alloc 3 [.pointer none, .slice none 0 0] kZeroB rfl cx.top wn rfl ?_
  intro g lab2 w2 hs2 hb2
  replace cx := cx.step hs2 rfl; replace s4 := s4.step hs2; replace hb1 := hb1.step hs2 rfl
  refine LW.nil ?_
  refine EW.seq_n ?_
  refine CW.seq ?_
  refine CW.seq ?_
  refine CW.region ?_
  refine LW.fldB 4 kFM rfl wn rfl rfl ?_
  refine LW.loadB1 (v := .slice oa4 xs.length c4) hb1 kOneO rfl wn rfl rfl ?_
  refine LW.len kSlO.und wn rfl rfl ?_
  refine LW.move wn rfl rfl ?_
  refine LW.nil ?_
  refine EW.seq_n ?_
  refine CW.block ?_
  have pi : PI w lab g oa4 c4 xs [] (.pointer none) lab2 w2 := ⟨cx, s4, ⟨none, 0, hb2, Own.nil⟩, .inl rfl⟩
  refine CW.sub (G := [(3, .pointer (some ⟨g, 0, none⟩)), (9, .slice oa4 xs.length c4), (10, .int .i64 (xs.length : Int)), (11, .int .i64 ((0 : Nat) : Int))]) ⟨rfl, rfl, rfl, rfl, trivial⟩ ?_
  refine CW.loop (fun n F_ w' => ∃ lab' k rem l p y, n = rem.length ∧ xs.drop k = rem ∧ F_ = [(3, .pointer (some ⟨g, 0, none⟩)), (9, .slice oa4 xs.length c4), (10, .int .i64 (xs.length : Int)), (11, .int .i64 ((k : Nat) : Int))] ∧ PI w lab g oa4 c4 xs l p lab' w' ∧ pathO rem = some y ∧ l ++ y = z) _
    ⟨lab2, 0, xs, [], _, z, rfl, rfl, rfl, pi, hz, rfl⟩ ?_
  rintro _ _ w3 ⟨lab3, k, rem, l, p, y, rfl, hk, rfl, pi, hy, hlz⟩
  refine CW.seq ?_
  refine CW.region ?_
  cases rem with
  | nil =>
    refine LW.lss_lit (drop_nil hk) wn rfl rfl rfl ?_
    refine LW.nil ?_
    refine EW.seq_n ?_
    refine CW.seq ?_
    refine CW.cond_f rfl ?_
    refine CW.exit ?_
    refine EW.seq_x ?_
    refine EW.join_x ?_
    refine EW.block_x ?_
    refine EW.seq_n ?_
    cases hy
    rw [List.append_nil] at hlz
    subst hlz
    refine CW.seq ?_
    refine CW.region ?_
    refine LW.call kST (c_String t pi.cx pi.bl pi.sf) wn rfl rfl ?_
    rintro e w4 ⟨rfl, hs⟩
    refine ⟨_, rfl, ?_⟩
    refine LW.assign wn rfl rfl ?_
    refine LW.nil ?_
    refine EW.seq_n ?_
    refine CW.ret ?_
    exact EW.ret1 rfl rfl ⟨rfl, hs⟩
  | cons o rem =>
    obtain ⟨hlt, hidx, hk', hklt⟩ := drop_cons hk
    refine LW.lss_lit hlt wn rfl rfl rfl ?_
    refine LW.nil ?_
    refine EW.seq_n ?_
    refine CW.seq ?_
    refine CW.cond_t rfl ?_
    refine CW.skip ?_
    refine EW.seq_n ?_
    refine CW.seq_join (fun F_ w' => ∃ lab' l p y, F_ = [(3, .pointer (some ⟨g, 0, none⟩)), (9, .slice oa4 xs.length c4), (10, .int .i64 (xs.length : Int)), (11, .int .i64 ((k : Nat) : Int))] ∧ PI w lab g oa4 c4 xs l p lab' w' ∧ pathO rem = some y ∧ l ++ y = z) ?_ ?_
    · refine CW.block ?_
      refine CW.seq ?_
      refine CW.region ?_
      refine LW.index (k := some) (r := o) (by rw [hidx]; rfl) pi.sl kSlO wn rfl rfl rfl ?_
      intro o' pa cs' ho hord hat
      cases ho
      obtain ⟨d1, d2, rfl, g1, ⟨oa8, c8, rfl, s8⟩⟩ := hord
      have g1 : d1 = [.int .i64 o.1] := g1
      subst g1
      refine LW.loadAn hat kAggO rfl wn rfl rfl ?_
      refine LW.alloc 7 (zc P_api_Option) kZeroO rfl pi.cx.top wn rfl ?_
      intro G5 lab4 w4 hs4 hb4
      have st4 := hs4.stp (ks := []) (.inr rfl)
      replace pi := pi.stp st4 rfl rfl rfl
      replace s8 := s8.keep st4.keeps
      refine LW.storeBn [.int .i64 o.1, .slice oa8 (List.length (α := UInt8) o.2) c8] [.int .i64 o.1, .slice oa8 (List.length (α := UInt8) o.2) c8] hb4 pi.cx.top rfl kAggO rfl rfl rfl rfl wn rfl rfl ?_
      intro w5 hs5 hb5
      have st5 := hs5.stp (ks := [7]) (.inl rfl)
      replace pi := pi.stp st5 rfl rfl rfl
      replace s8 := s8.keep st5.keeps
      have s8 : SL Rep.u8 lab4 w5 oa8 c8 o.2 := s8
      refine LW.nil ?_
      refine EW.seq_n ?_
      refine CW.seq ?_
      refine CW.seq ?_
      refine CW.region ?_
      refine LW.fldB 0 kFO0 rfl wn rfl rfl ?_
      refine LW.loadB1 (v := .int .i64 o.1) hb5 kOneI rfl wn rfl rfl ?_
      refine LW.neq (kb := some) (r := (o.1 != 11)) rfl wn rfl rfl rfl ?_
      intro bb hbb
      cases hbb
      refine LW.nil ?_
      refine EW.seq_n ?_
      refine CW.cond (b := (o.1 != 11)) rfl (fun hb => ?_) (fun hb => ?_)
      · refine CW.exit ?_
        refine EW.seq_x ?_
        refine EW.block_x ?_
        have hy' : pathO rem = some y := by
          have := hy
          unfold pathO at this
          rw [hb] at this
          exact this
        refine EW.sub (G := [(3, .pointer (some ⟨g, 0, none⟩)), (9, .slice oa4 xs.length c4), (10, .int .i64 (xs.length : Int)), (11, .int .i64 ((k : Nat) : Int))]) ⟨rfl, rfl, rfl, rfl, trivial⟩ ?_
        exact EW.join_n ⟨lab4, l, p, y, rfl, pi, hy', hlz⟩
      · have hy' := hy
        unfold pathO at hy'
        rw [hb] at hy'
        obtain ⟨x1, hx1, hy'⟩ := bnd_some hy'
        obtain ⟨y1, hy1, hy'⟩ := bnd_some hy'
        cases hy'
        refine CW.skip ?_
        refine EW.seq_n ?_
        refine CW.seq ?_
        refine CW.region ?_
        have hlen : l.length + (1 + (x1.length + y1.length)) ≤ LIM := by
          have := congrArg List.length hlz
          simp at this
          omega
        refine LW.wb (b := 47) pi (by omega) wn rfl rfl ?_
        intro lab6 w6 st6 pi
        replace hb5 := hb5.stp st6 rfl
        replace s8 := s8.keep st6.keeps
        refine LW.nil ?_
        refine EW.seq_n ?_
        refine CW.seq ?_
        refine CW.region ?_
        refine LW.fldB 1 kFO1 rfl wn rfl rfl ?_
        refine LW.loadB1 (v := .slice oa8 (List.length (α := UInt8) o.2) c8) hb5 kOneS rfl wn rfl rfl ?_
        refine LW.len kUnd_24 wn rfl rfl ?_
        refine LW.move wn rfl rfl ?_
        refine LW.nil ?_
        refine EW.seq_n ?_
        refine CW.block ?_
        refine CW.sub (G := [(3, .pointer (some ⟨g, 0, none⟩)), (9, .slice oa4 xs.length c4), (10, .int .i64 (xs.length : Int)), (11, .int .i64 ((k : Nat) : Int)), (20, .slice oa8 (List.length (α := UInt8) o.2) c8), (21, .int .i64 ((List.length (α := UInt8) o.2 : Nat) : Int)), (22, .int .i64 ((0 : Nat) : Int))]) ⟨rfl, rfl, rfl, rfl, rfl, rfl, rfl, trivial⟩ ?_
        generalize ho2 : (o.2 : List UInt8) = val at s8 hx1
        have hlz1 : ((l ++ [47]) ++ x1) ++ y1 = z := by rw [← hlz]; simp
        refine CW.loop (fun n F_ w' => ∃ lab' k2 rem2 l2 y2, n = rem2.length ∧ val.drop k2 = rem2 ∧ F_ = [(3, .pointer (some ⟨g, 0, none⟩)), (9, .slice oa4 xs.length c4), (10, .int .i64 (xs.length : Int)), (11, .int .i64 ((k : Nat) : Int)), (20, .slice oa8 val.length c8), (21, .int .i64 ((val.length : Nat) : Int)), (22, .int .i64 ((k2 : Nat) : Int))] ∧ PI w lab g oa4 c4 xs l2 (.pointer (some ⟨g, 0, none⟩)) lab' w' ∧ SL Rep.u8 lab' w' oa8 c8 val ∧ pathV rem2 = some y2 ∧ (l2 ++ y2) ++ y1 = z) _
          ⟨lab6, 0, val, l ++ [47], x1, rfl, rfl, rfl, pi, s8, hx1, hlz1⟩ ?_
        rintro _ _ w7 ⟨lab7, k2, rem2, l2, y2, rfl, hk2, rfl, pi, s8, hy2, hlz2⟩
        refine CW.seq ?_
        refine CW.region ?_
        cases rem2 with
        | nil =>
          refine LW.lss_lit (drop_nil hk2) wn rfl rfl rfl ?_
          refine LW.nil ?_
          refine EW.seq_n ?_
          refine CW.seq ?_
          refine CW.cond_f rfl ?_
          refine CW.exit ?_
          refine EW.seq_x ?_
          refine EW.join_x ?_
          refine EW.block_x ?_
          refine EW.block_n ?_
          cases hy2
          refine EW.sub (G := [(3, .pointer (some ⟨g, 0, none⟩)), (9, .slice oa4 xs.length c4), (10, .int .i64 (xs.length : Int)), (11, .int .i64 ((k : Nat) : Int))]) ⟨rfl, rfl, rfl, rfl, trivial⟩ ?_
          exact EW.join_n ⟨lab7, l2, _, y1, rfl, pi, hy1, by rw [List.append_nil] at hlz2; exact hlz2⟩
        | cons b rem2 =>
          obtain ⟨hlt2, hidx2, hk2', hk2lt⟩ := drop_cons hk2
          obtain ⟨x3, hx3, hy2⟩ := bnd_some hy2
          obtain ⟨y3, hy3, hy2⟩ := bnd_some hy2
          cases hy2
          obtain ⟨bp, hbp, hx3⟩ := bnd_some hx3
          cases hx3
          have hlen2 : l2.length + (List.length (α := UInt8) (bif bp then [b] else [37, hexd (b.toNat / 16), hexd (b.toNat % 16)]) + (y3.length + y1.length)) ≤ LIM := by
            have := congrArg List.length hlz2
            simp only [List.length_append] at this
            omega
          refine LW.lss_lit hlt2 wn rfl rfl rfl ?_
          refine LW.nil ?_
          refine EW.seq_n ?_
          refine CW.seq ?_
          refine CW.cond_t rfl ?_
          refine CW.skip ?_
          refine EW.seq_n ?_
          refine CW.seq_join (fun F_ w' => ∃ lab' l3, F_ = [(3, .pointer (some ⟨g, 0, none⟩)), (9, .slice oa4 xs.length c4), (10, .int .i64 (xs.length : Int)), (11, .int .i64 ((k : Nat) : Int)), (20, .slice oa8 val.length c8), (21, .int .i64 ((val.length : Nat) : Int)), (22, .int .i64 ((k2 : Nat) : Int))] ∧ PI w lab g oa4 c4 xs l3 (.pointer (some ⟨g, 0, none⟩)) lab' w' ∧ SL Rep.u8 lab' w' oa8 c8 val ∧ (l3 ++ y3) ++ y1 = z) ?_ ?_
          · refine CW.block ?_
            refine CW.seq ?_
            refine CW.region ?_
            refine LW.index (k := some) (r := b) (by rw [hidx2]; rfl) s8 kSl_24 wn rfl rfl rfl ?_
            intro b' pb cb hb' hbrd hbat
            cases hb'
            have hbrd : cb = [.int .u8 (b.toNat : Int)] := hbrd
            subst hbrd
            refine LW.loadA1 (hbat.cell0 rfl) kOneU wn rfl rfl ?_
            refine LW.assign wn rfl rfl ?_
            refine LW.nil ?_
            refine EW.seq_n ?_
            refine CW.seq ?_
            refine CW.seq ?_
            refine CW.region ?_
            refine LW.move wn rfl rfl ?_
            refine LW.pl pi t gl hbp wn rfl rfl ?_
            intro lab8 w8 st8
            replace pi := pi.stp st8 rfl rfl rfl
            replace s8 := s8.keep st8.keeps
            refine LW.nil ?_
            refine EW.seq_n ?_
            refine CW.cond (b := bp) rfl (fun hb2 => ?_) (fun hb2 => ?_)
            · subst hb2
              simp only [cond_true, List.length_cons, List.length_nil] at hlen2
              refine CW.seq ?_
              refine CW.region ?_
              refine LW.move wn rfl rfl ?_
              refine LW.wb (b := b) pi (by omega) wn rfl rfl ?_
              intro lab9 w9 st9 pi
              replace s8 := s8.keep st9.keeps
              refine LW.nil ?_
              refine EW.seq_n ?_
              refine CW.exit ?_
              refine EW.seq_x ?_
              refine EW.block_x ?_
              refine EW.sub (G := [(3, .pointer (some ⟨g, 0, none⟩)), (9, .slice oa4 xs.length c4), (10, .int .i64 (xs.length : Int)), (11, .int .i64 ((k : Nat) : Int)), (20, .slice oa8 val.length c8), (21, .int .i64 ((val.length : Nat) : Int)), (22, .int .i64 ((k2 : Nat) : Int))]) ⟨rfl, rfl, rfl, rfl, rfl, rfl, rfl, trivial⟩ ?_
              exact EW.join_n ⟨lab9, _, rfl, pi, s8, by rw [← hlz2]; simp⟩
            · subst hb2
              simp only [cond_false, List.length_cons, List.length_nil] at hlen2
              refine CW.skip ?_
              refine EW.seq_n ?_
              refine CW.seq ?_
              refine CW.region ?_
              refine LW.wb (b := 37) pi (by omega) wn rfl rfl ?_
              intro lab9 w9 st9 pi
              replace s8 := s8.keep st9.keeps
              refine LW.nil ?_
              refine EW.seq_n ?_
              refine CW.seq ?_
              refine CW.region ?_
              refine LW.move wn rfl rfl ?_
              refine LW.val (v := .int .u8 ((b.toNat / 16 : Nat) : Int)) rfl wn rfl rfl (fun _ ha => run_bin _ _ _ (ha.eval rfl) (ha.eval rfl) rfl (shr4_run b)) ?_
              refine LW.ixS rfl rfl uS (Int.natCast_nonneg _) (hexd_some (n := b.toNat / 16) (by have := b.toNat_lt; omega)) wn rfl ?_
              refine LW.wb (b := hexd (b.toNat / 16)) pi (by simp; omega) wn rfl rfl ?_
              intro lab10 w10 st10 pi
              replace s8 := s8.keep st10.keeps
              refine LW.nil ?_
              refine EW.seq_n ?_
              refine CW.region ?_
              refine LW.move wn rfl rfl ?_
              refine LW.val (v := .int .u8 ((b.toNat % 16 : Nat) : Int)) rfl wn rfl rfl (fun _ ha => run_bin _ _ _ (ha.eval rfl) (ha.eval rfl) rfl (and15_run b)) ?_
              refine LW.ixS rfl rfl uS (Int.natCast_nonneg _) (hexd_some (n := b.toNat % 16) (Nat.mod_lt _ (by decide))) wn rfl ?_
              refine LW.wb (b := hexd (b.toNat % 16)) pi (by simp; omega) wn rfl rfl ?_
              intro lab11 w11 st11 pi
              replace s8 := s8.keep st11.keeps
              refine LW.nil ?_
              refine EW.block_n ?_
              refine EW.sub (G := [(3, .pointer (some ⟨g, 0, none⟩)), (9, .slice oa4 xs.length c4), (10, .int .i64 (xs.length : Int)), (11, .int .i64 ((k : Nat) : Int)), (20, .slice oa8 val.length c8), (21, .int .i64 ((val.length : Nat) : Int)), (22, .int .i64 ((k2 : Nat) : Int))]) ⟨rfl, rfl, rfl, rfl, rfl, rfl, rfl, trivial⟩ ?_
              exact EW.join_n ⟨lab11, _, rfl, pi, s8, by rw [← hlz2]; simp⟩
          · rintro _ w12 ⟨lab12, l3, rfl, pi, s8, hlz3⟩
            refine CW.region ?_
            refine LW.add_lit (w64_succ hk2lt s8.le) wn rfl rfl rfl ?_
            refine LW.move wn rfl rfl ?_
            refine LW.nil ?_
            refine EW.sub (G := [(3, .pointer (some ⟨g, 0, none⟩)), (9, .slice oa4 xs.length c4), (10, .int .i64 (xs.length : Int)), (11, .int .i64 ((k : Nat) : Int)), (20, .slice oa8 val.length c8), (21, .int .i64 ((val.length : Nat) : Int)), (22, .int .i64 ((k2 + 1 : Nat) : Int))]) ⟨rfl, rfl, rfl, rfl, rfl, rfl, rfl, trivial⟩ ?_
            exact EW.join_n ⟨rem2.length, by simp, lab12, k2 + 1, rem2, l3, y3, rfl, hk2', rfl, pi, s8, hy3, hlz3⟩
    · rintro _ w12 ⟨lab12, l3, p3, y3, rfl, pi, hy3, hlz3⟩
      refine CW.region ?_
      refine LW.add_lit (w64_succ hklt pi.sl.le) wn rfl rfl rfl ?_
      refine LW.move wn rfl rfl ?_
      refine LW.nil ?_
      refine EW.sub (G := [(3, .pointer (some ⟨g, 0, none⟩)), (9, .slice oa4 xs.length c4), (10, .int .i64 (xs.length : Int)), (11, .int .i64 ((k + 1 : Nat) : Int))]) ⟨rfl, rfl, rfl, rfl, trivial⟩ ?_
      exact EW.join_n ⟨rem.length, by simp, lab12, k + 1, rem, l3, p3, y3, rfl, hk', rfl, pi, hy3, hlz3⟩
def con_option_Path : Con Tryd.prog := ⟨19, [.d P_api_Message], [.d .str], ⟨Tryd.f19, Tryd.func19, by kernel_rfl, by kernel_rfl⟩, m_option_Path, by
  intro a r h k kp gp lab w vs t gl _ hk hargs
  match vs, hargs with
  | [v1], hargs =>
    obtain ⟨h1, _⟩ := hargs
    have h : m_option_Path a.1 = some r := h
    refine (c_Path h t gl h1).mono ?_
    rintro e w' ⟨rfl, hs⟩
    exact ⟨lab, [_], rfl, hs, Dat.ofStr _, trivial⟩⟩

def t_option_in : Tab Tryd.prog := ⟨tes, ses, fes, bes, [], [], fds, [], qes, ges, mes⟩
def h_option_in : Hint := (.s .n (.j ⟨[.d 2 .bool], []⟩ false .n .n))

def con_option_in : Con Tryd.prog := ⟨64, [.d (.int .i64)], [.d .bool], ⟨Tryd.f64, Tryd.func64, by kernel_rfl, by kernel_rfl⟩, m_option_in, fun a r h => mkM_ok (T := t_option_in) (N := 9) (own := []) (rng := []) (c := (codeOf Tryd.f64)) (h := h_option_in) (qs := [.tmp 2]) kMix Tryd.func64 (by kernel_rfl) (by kernel_rfl) (by kernel_rfl) (by kernel_rfl) a r (Eq.trans (by kernel_rfl) h)⟩
def t_option_NoCacheKey : Tab Tryd.prog := ⟨tes, ses, fes, bes, [con_option_in], [], fds, [], qes, ges, mes⟩
def h_option_NoCacheKey : Hint := (.s .n (.j ⟨[.d 2 .bool], []⟩ false .n .n))

def con_option_NoCacheKey : Con Tryd.prog := ⟨38, [.d (.int .i64)], [.d .bool], ⟨Tryd.f38, Tryd.func38, by kernel_rfl, by kernel_rfl⟩, m_option_NoCacheKey, fun a r h => mkM_ok (T := t_option_NoCacheKey) (N := 10) (own := []) (rng := []) (c := (codeOf Tryd.f38)) (h := h_option_NoCacheKey) (qs := [.tmp 2]) kMix Tryd.func38 (by kernel_rfl) (by kernel_rfl) (by kernel_rfl) (by kernel_rfl) a r (Eq.trans (by kernel_rfl) h)⟩
def t_option_Critical : Tab Tryd.prog := ⟨tes, ses, fes, bes, [con_option_in], [], fds, [], qes, ges, mes⟩
def h_option_Critical : Hint := (.s .n (.j ⟨[.d 2 .bool], []⟩ false .n .n))

def con_option_Critical : Con Tryd.prog := ⟨34, [.d (.int .i64)], [.d .bool], ⟨Tryd.f34, Tryd.func34, by kernel_rfl, by kernel_rfl⟩, m_option_Critical, fun a r h => mkM_ok (T := t_option_Critical) (N := 10) (own := []) (rng := []) (c := (codeOf Tryd.f34)) (h := h_option_Critical) (qs := [.tmp 2]) kMix Tryd.func34 (by kernel_rfl) (by kernel_rfl) (by kernel_rfl) (by kernel_rfl) a r (Eq.trans (by kernel_rfl) h)⟩
def t_coreseclaw16_awake : Tab Tryd.prog := ⟨tes, ses, fes, bes, [con_option_Set, con_option_Uint, con_option_SetPath, con_option_Path, con_option_NoCacheKey, con_option_Critical], [], fds, [], qes, ges, mes⟩
def h_coreseclaw16_awake : Hint := (.s .n (.s .n (.s .n (.s .n (.j ⟨[.d 0 .bool], []⟩ false .n .n)))))

def con_coreseclaw16_awake : Con Tryd.prog := ⟨11, [], [.d .bool], ⟨Tryd.f11, Tryd.func11, by kernel_rfl, by kernel_rfl⟩, m_coreseclaw16_awake, fun a r h => mkM_ok (T := t_coreseclaw16_awake) (N := 44) (own := [7, 9]) (rng := []) (c := (codeOf Tryd.f11)) (h := h_coreseclaw16_awake) (qs := [.tmp 0]) kMix Tryd.func11 (by kernel_rfl) (by kernel_rfl) (by kernel_rfl) (by kernel_rfl) a r (Eq.trans (by kernel_rfl) h)⟩
def t_coresecmake_New : Tab Tryd.prog := ⟨tes, ses, fes, bes, [], [], fds, [], qes, ges, mes⟩
def h_coresecmake_New : Hint := (.s .n (.s .n .n))

def con_coresecmake_New : Con Tryd.prog := ⟨48, [.d (.sl (.int .i64))], [.p 97 P_coresecmake_Deck], ⟨Tryd.f48, Tryd.func48, by kernel_rfl, by kernel_rfl⟩, m_coresecmake_New, fun a r h => mkM_ok (T := t_coresecmake_New) (N := 6) (own := []) (rng := []) (c := (codeOf Tryd.f48)) (h := h_coresecmake_New) (qs := [.tmp 2]) kMix Tryd.func48 (by kernel_rfl) (by kernel_rfl) (by kernel_rfl) (by kernel_rfl) a r (Eq.trans (by kernel_rfl) h)⟩
def t_coresecmake_Mod : Tab Tryd.prog := ⟨tes, ses, fes, bes, [], [], fds, [], qes, ges, mes⟩
def h_coresecmake_Mod : Hint := (.s .n (.s .n (.j ⟨[.d 5 (.int .i64)], []⟩ false (.s .n (.c .n .n)) (.s .n .n))))

def con_coresecmake_Mod : Con Tryd.prog := ⟨14, [.d (.int .i64), .d (.int .i64)], [.d (.int .i64)], ⟨Tryd.f14, Tryd.func14, by kernel_rfl, by kernel_rfl⟩, m_coresecmake_Mod, fun a r h => mkM_ok (T := t_coresecmake_Mod) (N := 15) (own := []) (rng := []) (c := (codeOf Tryd.f14)) (h := h_coresecmake_Mod) (qs := [.tmp 4]) kMix Tryd.func14 (by kernel_rfl) (by kernel_rfl) (by kernel_rfl) (by kernel_rfl) a r (Eq.trans (by kernel_rfl) h)⟩
def t_coresecmake_Deck_Next : Tab Tryd.prog := ⟨tes, ses, fes, bes, [con_coresecmake_Mod], [], fds, [], qes, ges, mes⟩
def h_coresecmake_Deck_Next : Hint := (.s .n (.s (.s .n (.c (.s .n .n) .n)) (.s .n (.s .n .n))))

def con_coresecmake_Deck_Next : Con Tryd.prog := ⟨50, [.p 97 P_coresecmake_Deck, .d (.int .i64)], [.d (.int .i64)], ⟨Tryd.f50, Tryd.func50, by kernel_rfl, by kernel_rfl⟩, m_coresecmake_Deck_Next, fun a r h => mkM_ok (T := t_coresecmake_Deck_Next) (N := 35) (own := []) (rng := []) (c := (codeOf Tryd.f50)) (h := h_coresecmake_Deck_Next) (qs := [.tmp 4]) kMix Tryd.func50 (by kernel_rfl) (by kernel_rfl) (by kernel_rfl) (by kernel_rfl) a r (Eq.trans (by kernel_rfl) h)⟩
def t_coresecmake_Deck_Bytes : Tab Tryd.prog := ⟨tes, ses, fes, bes, [con_coresecmake_Deck_Next], [], fds, [], qes, ges, mes⟩
def h_coresecmake_Deck_Bytes : Hint := (.s .n (.s .n (.s (.s .n (.b (.l .g ⟨[.o 5 5 (.int .u8), .d 6 (.int .i64), .b 0 97 P_coresecmake_Deck], [0]⟩ (.s (.s .n (.c .n .n)) (.s (.b .n) .n))))) (.s .n .n))))

def con_coresecmake_Deck_Bytes : Con Tryd.prog := ⟨51, [.p 97 P_coresecmake_Deck, .d (.int .i64)], [.d (.sl (.int .u8))], ⟨Tryd.f51, Tryd.func51, by kernel_rfl, by kernel_rfl⟩, m_coresecmake_Deck_Bytes, fun a r h => mkM_ok (T := t_coresecmake_Deck_Bytes) (N := 22) (own := [20]) (rng := []) (c := (codeOf Tryd.f51)) (h := h_coresecmake_Deck_Bytes) (qs := [.tmp 4]) kMix Tryd.func51 (by kernel_rfl) (by kernel_rfl) (by kernel_rfl) (by kernel_rfl) a r (Eq.trans (by kernel_rfl) h)⟩
def t_coresecmake_numbers : Tab Tryd.prog := ⟨tes, ses, fes, bes, [], [], fds, [], qes, ges, mes⟩
def h_coresecmake_numbers : Hint := (.s .n (.s .n .n))

def con_coresecmake_numbers : Con Tryd.prog := ⟨92, [], [.d (.sl (.int .i64))], ⟨Tryd.f92, Tryd.func92, by kernel_rfl, by kernel_rfl⟩, m_coresecmake_numbers, fun a r h => mkM_ok (T := t_coresecmake_numbers) (N := 2) (own := []) (rng := []) (c := (codeOf Tryd.f92)) (h := h_coresecmake_numbers) (qs := [.tmp 0]) kMix Tryd.func92 (by kernel_rfl) (by kernel_rfl) (by kernel_rfl) (by kernel_rfl) a r (Eq.trans (by kernel_rfl) h)⟩
def t_coresecref16_All : Tab Tryd.prog := ⟨tes, ses, fes, bes, [], [], fds, [], qes, ges, mes⟩
def h_coresecref16_All : Hint := (.s .n (.s .n (.s (.s .n (.b (.l (.a 11 10) ⟨[.o 5 24 (.sl (.int .u8))], [1, 9, 10]⟩ (.s .n (.s (.c .n .n) (.j ⟨[.o 5 24 (.sl (.int .u8))], [1, 9, 10, 11]⟩ false (.b (.s .n (.s .n (.c .n .n)))) .n)))))) (.s .n .n))))

def con_coresecref16_All : Con Tryd.prog := ⟨29, [.d P_api_Message, .d (.int .i64)], [.d (.sl (.sl (.int .u8)))], ⟨Tryd.f29, Tryd.func29, by kernel_rfl, by kernel_rfl⟩, m_coresecref16_All, fun a r h => mkM_ok (T := t_coresecref16_All) (N := 27) (own := [24]) (rng := [10]) (c := (codeOf Tryd.f29)) (h := h_coresecref16_All) (qs := [.tmp 4]) kMix Tryd.func29 (by kernel_rfl) (by kernel_rfl) (by kernel_rfl) (by kernel_rfl) a r (Eq.trans (by kernel_rfl) h)⟩
def t_coresecref16_All_o : Tab Tryd.prog := ⟨tes, ses, fes, bes, [], [], fds, [], qes, ges, mes⟩
def h_coresecref16_All_o : Hint := (.s .n (.s .n (.s (.s .n (.b (.l (.a 11 10) ⟨[.o 5 24 (.sl (.int .u8))], [1, 9, 10]⟩ (.s .n (.s (.c .n .n) (.j ⟨[.o 5 24 (.sl (.int .u8))], [1, 9, 10, 11]⟩ false (.b (.s .n (.s .n (.c .n .n)))) .n)))))) (.s .n .n))))

def con_coresecref16_All_o : Con Tryd.prog := ⟨29, [.d P_api_Message, .d (.int .i64)], [.o 24 (.sl (.int .u8))], ⟨Tryd.f29, Tryd.func29, by kernel_rfl, by kernel_rfl⟩, m_coresecref16_All_o, fun a r h => mkM_ok (T := t_coresecref16_All_o) (N := 27) (own := [24]) (rng := [10]) (c := (codeOf Tryd.f29)) (h := h_coresecref16_All_o) (qs := [.tmp 4]) kMix Tryd.func29 (by kernel_rfl) (by kernel_rfl) (by kernel_rfl) (by kernel_rfl) a r (Eq.trans (by kernel_rfl) h)⟩
def t_coresecref16_with : Tab Tryd.prog := ⟨tes, ses, fes, bes, [], [], fds, [], qes, ges, mes⟩
def h_coresecref16_with : Hint := (.s .n (.s .n (.s .n (.s (.s .n (.b (.l (.a 18 17) ⟨[.o 5 74 P_api_Option], [2, 4, 16, 17]⟩ (.s .n (.s (.c .n .n) (.s (.b (.s .n .n)) .n)))))) (.s .n (.s .n .n))))))

def con_coresecref16_with : Con Tryd.prog := ⟨62, [.d P_api_Message, .d (.sl P_api_Option)], [.d P_api_Message], ⟨Tryd.f62, Tryd.func62, by kernel_rfl, by kernel_rfl⟩, m_coresecref16_with, fun a r h => mkM_ok (T := t_coresecref16_with) (N := 35) (own := [30]) (rng := [17]) (c := (codeOf Tryd.f62)) (h := h_coresecref16_with) (qs := [.cell 4 27]) kMix Tryd.func62 (by kernel_rfl) (by kernel_rfl) (by kernel_rfl) (by kernel_rfl) a r (Eq.trans (by kernel_rfl) h)⟩
def t_coresecref16_Set : Tab Tryd.prog := ⟨tes, ses, fes, bes, [con_coresecref16_with], [], fds, [], qes, ges, mes⟩
def h_coresecref16_Set : Hint := (.s .n (.s .n (.s (.s .n (.b (.l (.a 17 16) ⟨[.o 7 74 P_api_Option], [1, 2, 3, 6, 15, 16]⟩ (.s .n (.s (.c .n .n) (.j ⟨[.o 7 74 P_api_Option], [1, 2, 3, 6, 15, 16, 17]⟩ false (.b (.s .n (.s .n (.c .n .n)))) .n)))))) (.s (.s .n (.b (.l (.a 32 31) ⟨[.o 7 74 P_api_Option], [1, 3, 6, 30, 31]⟩ (.s .n (.s (.c .n .n) (.s (.b (.s .n .n)) .n)))))) (.s (.s .n (.b (.l (.a 46 45) ⟨[.o 7 74 P_api_Option], [1, 3, 6, 44, 45]⟩ (.s .n (.s (.c .n .n) (.j ⟨[.o 7 74 P_api_Option], [1, 3, 6, 44, 45, 46]⟩ false (.b (.s .n (.s .n (.c .n .n)))) .n)))))) (.s .n .n))))))

def con_coresecref16_Set : Con Tryd.prog := ⟨31, [.d P_api_Message, .d (.int .i64), .d (.sl (.sl (.int .u8)))], [.d P_api_Message], ⟨Tryd.f31, Tryd.func31, by kernel_rfl, by kernel_rfl⟩, m_coresecref16_Set, fun a r h => mkM_ok (T := t_coresecref16_Set) (N := 62) (own := [28, 41, 57]) (rng := [16, 31, 45]) (c := (codeOf Tryd.f31)) (h := h_coresecref16_Set) (qs := [.cell 6 27]) kMix Tryd.func31 (by kernel_rfl) (by kernel_rfl) (by kernel_rfl) (by kernel_rfl) a r (Eq.trans (by kernel_rfl) h)⟩
def t_coresecmake_Deck_Options : Tab Tryd.prog := ⟨tes, ses, fes, bes, [con_coresecmake_Deck_Next, con_coresecmake_numbers, con_coresecref16_All_o, con_coresecmake_Deck_Bytes, con_coresecref16_Set], [], fds, [], qes, ges, mes⟩
def h_coresecmake_Deck_Options : Hint := (.s .n (.s .n (.s (.s .n (.b (.l .g ⟨[.d 6 (.int .i64), .b 0 97 P_coresecmake_Deck, .b 5 27 P_api_Message], [0, 5]⟩ (.s (.s .n (.c .n .n)) (.s (.b (.s .n .n)) .n))))) (.s .n .n))))

def con_coresecmake_Deck_Options : Con Tryd.prog := ⟨76, [.p 97 P_coresecmake_Deck, .d (.int .i64)], [.d (.sl P_api_Option)], ⟨Tryd.f76, Tryd.func76, by kernel_rfl, by kernel_rfl⟩, m_coresecmake_Deck_Options, fun a r h => mkM_ok (T := t_coresecmake_Deck_Options) (N := 34) (own := []) (rng := []) (c := (codeOf Tryd.f76)) (h := h_coresecmake_Deck_Options) (qs := [.tmp 4]) kMix Tryd.func76 (by kernel_rfl) (by kernel_rfl) (by kernel_rfl) (by kernel_rfl) a r (Eq.trans (by kernel_rfl) h)⟩
def t_coresecref15_Copy : Tab Tryd.prog := ⟨tes, ses, fes, bes, [], [], fds, [], qes, ges, mes⟩
def h_coresecref15_Copy : Hint := (.s .n (.s .n (.s .n (.s (.s .n (.b (.l (.a 17 16) ⟨[.o 3 74 P_api_Option], [1, 2, 15, 16]⟩ (.s .n (.s (.c .n .n) (.s (.b (.s .n .n)) .n)))))) (.s .n (.s .n .n))))))

def con_coresecref15_Copy : Con Tryd.prog := ⟨47, [.d P_api_Message], [.d P_api_Message], ⟨Tryd.f47, Tryd.func47, by kernel_rfl, by kernel_rfl⟩, m_coresecref15_Copy, fun a r h => mkM_ok (T := t_coresecref15_Copy) (N := 34) (own := [29]) (rng := [16]) (c := (codeOf Tryd.f47)) (h := h_coresecref15_Copy) (qs := [.cell 2 27]) kMix Tryd.func47 (by kernel_rfl) (by kernel_rfl) (by kernel_rfl) (by kernel_rfl) a r (Eq.trans (by kernel_rfl) h)⟩
def t_coresecmake_Deck_Message : Tab Tryd.prog := ⟨tes, ses, fes, bes, [con_coresecmake_Deck_Next, con_coresecmake_Deck_Bytes, con_coresecmake_Deck_Options, con_coresecref15_Copy], [], fds, [], qes, ges, mes⟩
def h_coresecmake_Deck_Message : Hint := (.s .n (.s .n (.j ⟨[.b 0 97 P_coresecmake_Deck, .b 5 27 P_api_Message], [0, 4, 5]⟩ false (.s .n (.c .n .n)) (.s .n .n))))

def con_coresecmake_Deck_Message : Con Tryd.prog := ⟨49, [.p 97 P_coresecmake_Deck, .d (.int .i64)], [.d P_api_Message], ⟨Tryd.f49, Tryd.func49, by kernel_rfl, by kernel_rfl⟩, m_coresecmake_Deck_Message, fun a r h => mkM_ok (T := t_coresecmake_Deck_Message) (N := 28) (own := []) (rng := []) (c := (codeOf Tryd.f49)) (h := h_coresecmake_Deck_Message) (qs := [.cell 4 27]) kMix Tryd.func49 (by kernel_rfl) (by kernel_rfl) (by kernel_rfl) (by kernel_rfl) a r (Eq.trans (by kernel_rfl) h)⟩
def t_coresecmake_Deck_Text : Tab Tryd.prog := ⟨tes, ses, fes, bes, [con_coresecmake_Deck_Next], [], fds, [], qes, ges, mes⟩
def h_coresecmake_Deck_Text : Hint := (.s .n (.s .n (.s (.s .n (.b (.l .g ⟨[.d 5 .str, .d 6 (.int .i64), .b 0 97 P_coresecmake_Deck], [0]⟩ (.s (.s .n (.c .n .n)) (.s (.b .n) .n))))) (.s .n .n))))

def con_coresecmake_Deck_Text : Con Tryd.prog := ⟨52, [.p 97 P_coresecmake_Deck, .d (.int .i64)], [.d .str], ⟨Tryd.f52, Tryd.func52, by kernel_rfl, by kernel_rfl⟩, m_coresecmake_Deck_Text, fun a r h => mkM_ok (T := t_coresecmake_Deck_Text) (N := 23) (own := []) (rng := []) (c := (codeOf Tryd.f52)) (h := h_coresecmake_Deck_Text) (qs := [.tmp 4]) kMix Tryd.func52 (by kernel_rfl) (by kernel_rfl) (by kernel_rfl) (by kernel_rfl) a r (Eq.trans (by kernel_rfl) h)⟩
def t_coreseclaw16_message : Tab Tryd.prog := ⟨tes, ses, fes, bes, [con_coresecmake_New, con_coresecmake_Deck_Next, con_coresecmake_Deck_Message, con_coresecmake_Deck_Bytes, con_coresecref16_Set, con_coresecmake_Deck_Text], [], fds, [], qes, ges, mes⟩
def h_coreseclaw16_message : Hint := (.s .n (.s .n (.s .n (.j ⟨[.b 4 27 P_api_Message], [2, 4]⟩ false (.s .n (.b (.s .n (.c .n (.s .n (.c .n (.s .n (.c .n .n)))))))) (.s .n .n)))))

def con_coreseclaw16_message : Con Tryd.prog := ⟨12, [.d (.sl (.int .i64))], [.d P_api_Message], ⟨Tryd.f12, Tryd.func12, by kernel_rfl, by kernel_rfl⟩, m_coreseclaw16_message, fun a r h => mkM_ok (T := t_coreseclaw16_message) (N := 46) (own := []) (rng := []) (c := (codeOf Tryd.f12)) (h := h_coreseclaw16_message) (qs := [.cell 2 27]) kMix Tryd.func12 (by kernel_rfl) (by kernel_rfl) (by kernel_rfl) (by kernel_rfl) a r (Eq.trans (by kernel_rfl) h)⟩
def t_coresecref16_plain : Tab Tryd.prog := ⟨tes, ses, fes, bes, [], [], fds, [], qes, ges, mes⟩
def h_coresecref16_plain : Hint := (.s .n (.j ⟨[.d 2 .bool], []⟩ false .n .n))

def con_coresecref16_plain : Con Tryd.prog := ⟨53, [.d (.int .u8)], [.d .bool], ⟨Tryd.f53, Tryd.func53, by kernel_rfl, by kernel_rfl⟩, m_coresecref16_plain, fun a r h => mkM_ok (T := t_coresecref16_plain) (N := 41) (own := []) (rng := []) (c := (codeOf Tryd.f53)) (h := h_coresecref16_plain) (qs := [.tmp 2]) kMix Tryd.func53 (by kernel_rfl) (by kernel_rfl) (by kernel_rfl) (by kernel_rfl) a r (Eq.trans (by kernel_rfl) h)⟩
def t_coresecref16_Path : Tab Tryd.prog := ⟨tes, ses, fes, bes, [con_coresecref16_All, con_coresecref16_plain], [], fds, [], qes, ges, mes⟩
def h_coresecref16_Path : Hint := (.s .n (.s .n (.s (.s .n (.b (.l (.a 11 10) ⟨[.o 3 5 (.int .u8)], [9, 10]⟩ (.s .n (.s (.c .n .n) (.s (.b (.s .n (.s .n (.s .n (.b (.l (.a 20 19) ⟨[.o 3 5 (.int .u8)], [9, 10, 11, 18, 19]⟩ (.s .n (.s (.c .n .n) (.j ⟨[.o 3 5 (.int .u8)], [9, 10, 11, 18, 19, 20]⟩ false (.b (.s .n (.s .n (.c .n .n)))) .n))))))))) .n)))))) (.s .n .n))))

def con_coresecref16_Path : Con Tryd.prog := ⟨13, [.d P_api_Message], [.d .str], ⟨Tryd.f13, Tryd.func13, by kernel_rfl, by kernel_rfl⟩, m_coresecref16_Path, fun a r h => mkM_ok (T := t_coresecref16_Path) (N := 43) (own := [17, 29, 38]) (rng := [10, 19]) (c := (codeOf Tryd.f13)) (h := h_coresecref16_Path) (qs := [.tmp 2]) kMix Tryd.func13 (by kernel_rfl) (by kernel_rfl) (by kernel_rfl) (by kernel_rfl) a r (Eq.trans (by kernel_rfl) h)⟩
def t_coresecmake_Spoilt : Tab Tryd.prog := ⟨tes, ses, fes, bes, [con_coresecmake_Mod], [], fds, [], qes, ges, mes⟩
def h_coresecmake_Spoilt : Hint := (.s .n (.s .n (.s (.s .n (.c (.s .n .n) .n)) (.s .n (.s (.s .n (.b (.s .n (.c .n (.s .n (.c (.s .n .n) (.s .n (.c (.s .n .n) (.s .n .n))))))))) (.s .n .n))))))

def con_coresecmake_Spoilt : Con Tryd.prog := ⟨15, [.d (.sl (.int .u8)), .d (.int .i64), .d (.int .i64)], [.d (.sl (.int .u8))], ⟨Tryd.f15, Tryd.func15, by kernel_rfl, by kernel_rfl⟩, m_coresecmake_Spoilt, fun a r h => mkM_ok (T := t_coresecmake_Spoilt) (N := 59) (own := [10, 49, 53]) (rng := []) (c := (codeOf Tryd.f15)) (h := h_coresecmake_Spoilt) (qs := [.tmp 6]) kMix Tryd.func15 (by kernel_rfl) (by kernel_rfl) (by kernel_rfl) (by kernel_rfl) a r (Eq.trans (by kernel_rfl) h)⟩
def t_coresecref16_nibble : Tab Tryd.prog := ⟨tes, ses, fes, bes, [], [], fds, [], qes, ges, mes⟩
def h_coresecref16_nibble : Hint := (.s .n (.s (.s .n (.c (.s .n .n) .n)) (.s .n .n)))

def con_coresecref16_nibble : Con Tryd.prog := ⟨56, [.d (.int .u8)], [.d (.int .u8)], ⟨Tryd.f56, Tryd.func56, by kernel_rfl, by kernel_rfl⟩, m_coresecref16_nibble, fun a r h => mkM_ok (T := t_coresecref16_nibble) (N := 10) (own := []) (rng := []) (c := (codeOf Tryd.f56)) (h := h_coresecref16_nibble) (qs := [.tmp 2]) kMix Tryd.func56 (by kernel_rfl) (by kernel_rfl) (by kernel_rfl) (by kernel_rfl) a r (Eq.trans (by kernel_rfl) h)⟩
def t_coresecref15_extended : Tab Tryd.prog := ⟨tes, ses, fes, bes, [], [], fds, [], qes, ges, mes⟩
def h_coresecref15_extended : Hint := (.s .n (.s (.b (.s .n (.c (.s .n .n) (.s .n (.c (.s .n .n) .n))))) (.s .n .n)))

def con_coresecref15_extended : Con Tryd.prog := ⟨91, [.d (.int .i64)], [.d (.int .i64), .d (.sl (.int .u8))], ⟨Tryd.f91, Tryd.func91, by kernel_rfl, by kernel_rfl⟩, m_coresecref15_extended, fun a r h => mkM_ok (T := t_coresecref15_extended) (N := 23) (own := []) (rng := []) (c := (codeOf Tryd.f91)) (h := h_coresecref15_extended) (qs := [.tmp 2, .tmp 3]) kMix Tryd.func91 (by kernel_rfl) (by kernel_rfl) (by kernel_rfl) (by kernel_rfl) a r (Eq.trans (by kernel_rfl) h)⟩
def t_coresecref15_Raw : Tab Tryd.prog := ⟨tes, ses, fes, bes, [con_coresecref15_extended], [], fds, [], qes, ges, mes⟩
def h_coresecref15_Raw : Hint := (.s .n (.s .n (.s .n (.s .n (.s (.s .n (.b (.l (.a 38 37) ⟨[.o 3 5 (.int .u8), .d 4 (.int .i64)], [1, 36, 37]⟩ (.s .n (.s (.c .n .n) (.s (.b (.s .n (.s .n (.s .n (.s .n .n))))) .n)))))) (.j ⟨[.o 3 5 (.int .u8)], []⟩ false (.s .n (.c .n .n)) (.s .n .n)))))))

def con_coresecref15_Raw : Con Tryd.prog := ⟨75, [.d P_api_Message], [.d (.sl (.int .u8))], ⟨Tryd.f75, Tryd.func75, by kernel_rfl, by kernel_rfl⟩, m_coresecref15_Raw, fun a r h => mkM_ok (T := t_coresecref15_Raw) (N := 86) (own := [30, 34, 64, 66, 68, 71, 81, 84]) (rng := [37]) (c := (codeOf Tryd.f75)) (h := h_coresecref15_Raw) (qs := [.tmp 2]) kMix Tryd.func75 (by kernel_rfl) (by kernel_rfl) (by kernel_rfl) (by kernel_rfl) a r (Eq.trans (by kernel_rfl) h)⟩
def t_coresecref15_Valid : Tab Tryd.prog := ⟨tes, ses, fes, bes, [con_coresecref15_Raw], [], fds, [], qes, ges, mes⟩
def h_coresecref15_Valid : Hint := (.s .n (.s (.j ⟨[.d 52 .bool], [1]⟩ false .n (.c (.s .n .n) .n)) (.s .n (.s (.j ⟨[.d 69 .bool], [1]⟩ false .n (.c (.s .n .n) .n)) (.s .n (.s (.s .n (.b (.l (.a 73 72) ⟨[.d 4 (.int .i64)], [1, 71, 72]⟩ (.s .n (.s (.c .n .n) (.s (.b (.s .n (.s (.j ⟨[.d 91 .bool], [1, 6, 71, 72, 73]⟩ false .n (.c (.s .n .n) .n)) .n))) .n)))))) (.s (.j ⟨[.d 121 .bool], [1]⟩ false .n (.c (.s .n .n) .n)) (.s .n .n))))))))

def con_coresecref15_Valid : Con Tryd.prog := ⟨46, [.d P_api_Message], [.d .bool], ⟨Tryd.f46, Tryd.func46, by kernel_rfl, by kernel_rfl⟩, m_coresecref15_Valid, fun a r h => mkM_ok (T := t_coresecref15_Valid) (N := 126) (own := []) (rng := [72]) (c := (codeOf Tryd.f46)) (h := h_coresecref15_Valid) (qs := [.tmp 2]) kMix Tryd.func46 (by kernel_rfl) (by kernel_rfl) (by kernel_rfl) (by kernel_rfl) a r (Eq.trans (by kernel_rfl) h)⟩
def t_coresecref16_SetPath : Tab Tryd.prog := ⟨tes, ses, fes, bes, [con_coresecref16_nibble, con_coresecref16_Set, con_coresecref16_Path, con_coresecref15_Valid], [1000033, 1000040, 1000086], fds, [], qes, ges, mes⟩
def h_coresecref16_SetPath : Hint := (.s .n (.s .n (.s (.s .n (.b (.l .g ⟨[.q 6 24 5 (.int .u8), .d 7 (.int .i64), .b 4 27 P_api_Message], [1, 2, 4]⟩ (.s (.s .n (.c .n .n)) (.j ⟨[.q 6 24 5 (.int .u8), .d 7 (.int .i64), .b 4 27 P_api_Message], [1, 2, 4]⟩ true (.b (.b (.s .n (.c .n (.s .n (.c (.s .n .n) (.j ⟨[.d 48 .bool], [1, 2, 4, 6, 7]⟩ false .n (.c (.s .n (.s .n .n)) (.s .n .n))))))))) .n))))) (.s .n (.s (.b (.s .n (.c (.s .n .n) (.s .n (.c (.s .n .n) .n))))) (.s .n .n))))))

def con_coresecref16_SetPath : Con Tryd.prog := ⟨17, [.d P_api_Message, .d .str], [.d P_api_Message, .d (.int .i64)], ⟨Tryd.f17, Tryd.func17, by kernel_rfl, by kernel_rfl⟩, m_coresecref16_SetPath, fun a r h => mkM_ok (T := t_coresecref16_SetPath) (N := 104) (own := [27, 40, 42, 80]) (rng := []) (c := (codeOf Tryd.f17)) (h := h_coresecref16_SetPath) (qs := [.cell 4 27, .tmp 5]) kMix Tryd.func17 (by kernel_rfl) (by kernel_rfl) (by kernel_rfl) (by kernel_rfl) a r (Eq.trans (by kernel_rfl) h)⟩
def t_coresecref15_Same : Tab Tryd.prog := ⟨tes, ses, fes, bes, [], [], fds, [], qes, ges, mes⟩
def h_coresecref15_Same : Hint := (.s .n (.s (.j ⟨[.d 52 .bool], [2, 3]⟩ false .n (.c (.s .n .n) .n)) (.s (.s .n (.b (.l (.a 56 55) ⟨[], [3, 54, 55]⟩ (.s .n (.s (.c .n .n) (.s (.b (.s .n (.j ⟨[.d 82 .bool], [3, 54, 55, 56]⟩ false .n (.c (.s .n .n) .n)))) .n)))))) (.s .n .n))))

def con_coresecref15_Same : Con Tryd.prog := ⟨18, [.d P_api_Message, .d P_api_Message], [.d .bool], ⟨Tryd.f18, Tryd.func18, by kernel_rfl, by kernel_rfl⟩, m_coresecref15_Same, fun a r h => mkM_ok (T := t_coresecref15_Same) (N := 84) (own := []) (rng := [55]) (c := (codeOf Tryd.f18)) (h := h_coresecref15_Same) (qs := [.tmp 4]) kMix Tryd.func18 (by kernel_rfl) (by kernel_rfl) (by kernel_rfl) (by kernel_rfl) a r (Eq.trans (by kernel_rfl) h)⟩
def t_coreseclaw16_OptionPaths : Tab Tryd.prog := ⟨tes, ses, fes, bes, [con_coreseclaw16_awake, con_coreseclaw16_message, con_coresecref16_Path, con_coresecmake_Mod, con_coresecmake_Spoilt, con_option_SetPath, con_coresecref16_SetPath, con_coresecref15_Same, con_option_Path], [], fds, [], qes, ges, mes⟩
def h_coreseclaw16_OptionPaths : Hint := (.s .n (.s (.s .n (.c (.s .n .n) .n)) (.s .n (.s .n (.s .n (.s (.s .n (.b (.l (.n 29 28) ⟨[.d 11 .str], [1, 2, 3, 9, 10, 28]⟩ (.s .n (.s (.c .n .n) (.s (.b .n) .n)))))) (.s (.s .n (.b (.l (.a 47 46) ⟨[], [9, 10, 45, 46]⟩ (.s .n (.s (.c .n .n) (.s (.b (.s .n (.s .n (.s .n (.j ⟨[.d 71 .bool], [9, 10, 45, 46, 47]⟩ false .n (.c (.s .n .n) .n)))))) .n)))))) (.j ⟨[.d 8 .bool], []⟩ false .n .n))))))))

def con_coreseclaw16_OptionPaths : Con Tryd.prog := ⟨3, [.d (.sl (.int .i64)), .d .str, .d (.int .i64), .d (.int .i64)], [.d .bool], ⟨Tryd.f3, Tryd.func3, by kernel_rfl, by kernel_rfl⟩, m_coreseclaw16_OptionPaths, fun a r h => mkM_ok (T := t_coreseclaw16_OptionPaths) (N := 80) (own := []) (rng := [46]) (c := (codeOf Tryd.f3)) (h := h_coreseclaw16_OptionPaths) (qs := [.tmp 8]) kMix Tryd.func3 (by kernel_rfl) (by kernel_rfl) (by kernel_rfl) (by kernel_rfl) a r (Eq.trans (by kernel_rfl) h)⟩
end
end Go.Proofs.YtllomdfckciedaaDoor
