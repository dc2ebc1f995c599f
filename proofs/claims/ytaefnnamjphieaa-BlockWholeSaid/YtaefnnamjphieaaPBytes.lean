/-
  Package bytes: models of its functions, and that the functions compute them. No condition but that the model has a value.
-/
import Derived.Test.YtaefnnamjphieaaPOption
namespace Go.Proofs.Ytaefnnamjphieaa
open Go.Gk Go.RowKit
/-- bytes.Clone: nil of nil, else a new slice of the same bytes. (The facts that it names: kUnd_24 kSl_24 kZero_5) -/
def m_bytes_Clone (a0 : List UInt8) : Option (List UInt8) := app ([] : List UInt8) a0
theorem c_bytes_Clone {lab : Lab} {w : World} {a0 : List UInt8} {r : List UInt8} (hm : m_bytes_Clone a0 = some r) (t : Top lab w) {oa : Option Addr} {c : Nat} (s : SL Rep.u8 lab w oa c a0) :
    Calls Try.prog 33 [.slice oa a0.length c].toArray w (fun e w' => ∃ (oa' : Option Addr) (c' : Nat), e = .returned (.slice oa' r.length c') ∧ Ste lab 0 w lab w' ∧ SL Rep.u8 lab w' oa' c' r ∧ True) := by
  have hm' : bnd (app ([] : List UInt8) a0) some = some r := by unfold m_bytes_Clone at hm; rw [hm]; rfl
  refine enter Try.func33 rfl 8 rfl rfl ?_
  refine CW.sub (G := [(0, .slice oa a0.length c)]) ⟨rfl, trivial⟩ ?_
  refine CW.seq ?_
  refine CW.region ?_
  refine LW.assign wn rfl rfl ?_
  refine LW.nil ?_
  refine EW.seq_n ?_
  refine CW.seq ?_
  refine CW.seq ?_
  refine CW.region ?_
  refine LW.move wn rfl rfl ?_
  refine LW.eqnil kUnd_24 wn rfl rfl rfl ?_
  refine LW.nil ?_
  refine EW.seq_n ?_
  refine CW.cond (b := oa.isNone) rfl (fun hb => ?_) (fun hb => ?_)
  · cases oa with
    | some _ => cases hb
    | none =>
      have h0 : a0 = [] := (SL.flat' s).1 rfl
      subst h0
      have hr : r = [] := by simp [app, bnd, LIM] at hm'; exact hm'
      subst hr
      refine CW.seq ?_
      refine CW.region ?_
      refine LW.assign wn rfl rfl ?_
      refine LW.nil ?_
      refine EW.seq_n ?_
      refine CW.ret ?_
      refine EW.seq_r ?_
      exact EW.ret1 rfl rfl ⟨none, 0, rfl, ⟨rfl, rfl, rfl, Nat.le_refl _, fun _ _ _ => rfl, fun _ _ => rfl, t⟩, SL.nil, trivial⟩
  · refine CW.skip ?_
    refine EW.seq_n ?_
    refine CW.seq ?_
    refine CW.region ?_
    have cx := Cx.start t
    replace s := s.keep Keeps.lin
    refine LW.buildOwn (k := 2) (ρ := Rep.u8) (vs := []) (css := []) (xs := []) rfl kSl_24 kZero_5 (by kernel_rfl) rfl rfl trivial cx.top wn rfl ?_
    intro oa1 c1 lab1 w1 e1 o1
    replace cx := cx.step e1 rfl; replace s := s.step e1
    refine LW.move wn rfl rfl ?_
    refine LW.append (ρ := Rep.u8) (xs := []) (ys := a0) hm' o1 (SL.flat' s) cx.top rfl kSl_24 rfl wn rfl rfl rfl ?_
    intro zs oa2 c2 lab2 w2 hz e2 o2
    cases hz
    replace cx := cx.step e2 rfl
    refine LW.assign wn rfl rfl ?_
    refine LW.nil ?_
    refine EW.seq_n ?_
    refine CW.ret ?_
    exact EW.ret1 rfl rfl ⟨_, _, rfl, cx.ste t, o2.sl (cx.keeps t) (cx.own0 t rfl), trivial⟩
theorem co_bytes_Clone {lab : Lab} {w : World} {a0 : List UInt8} {r : List UInt8} {k : Nat} (hm : m_bytes_Clone a0 = some r) (t : Top lab w) {oa : Option Addr} {c : Nat} (s : SL Rep.u8 lab w oa c a0) :
    Calls Try.prog 33 [.slice oa a0.length c].toArray w (fun e w' => ∃ (lab' : Lab) (oa' : Option Addr) (c' : Nat), e = .returned (.slice oa' r.length c') ∧ Ste lab 0 w lab' w' ∧ Own Rep.u8 lab' w' k 5 oa' c' r ∧ True) := by
  have hm' : bnd (app ([] : List UInt8) a0) some = some r := by unfold m_bytes_Clone at hm; rw [hm]; rfl
  refine enter Try.func33 rfl 8 rfl rfl ?_
  refine CW.sub (G := [(0, .slice oa a0.length c)]) ⟨rfl, trivial⟩ ?_
  refine CW.seq ?_
  refine CW.region ?_
  refine LW.assign wn rfl rfl ?_
  refine LW.nil ?_
  refine EW.seq_n ?_
  refine CW.seq ?_
  refine CW.seq ?_
  refine CW.region ?_
  refine LW.move wn rfl rfl ?_
  refine LW.eqnil kUnd_24 wn rfl rfl rfl ?_
  refine LW.nil ?_
  refine EW.seq_n ?_
  refine CW.cond (b := oa.isNone) rfl (fun hb => ?_) (fun hb => ?_)
  · cases oa with
    | some _ => cases hb
    | none =>
      have h0 : a0 = [] := (SL.flat' s).1 rfl
      subst h0
      have hr : r = [] := by simp [app, bnd, LIM] at hm'; exact hm'
      subst hr
      refine CW.seq ?_
      refine CW.region ?_
      refine LW.assign wn rfl rfl ?_
      refine LW.nil ?_
      refine EW.seq_n ?_
      refine CW.ret ?_
      refine EW.seq_r ?_
      exact EW.ret1 rfl rfl ⟨lab, none, 0, rfl, ⟨rfl, rfl, rfl, Nat.le_refl _, fun _ _ _ => rfl, fun _ _ => rfl, t⟩, Own.nil, trivial⟩
  · refine CW.skip ?_
    refine EW.seq_n ?_
    refine CW.seq ?_
    refine CW.region ?_
    have cx := Cx.start t
    replace s := s.keep Keeps.lin
    refine LW.buildOwn (k := 2) (ρ := Rep.u8) (vs := []) (css := []) (xs := []) rfl kSl_24 kZero_5 (by kernel_rfl) rfl rfl trivial cx.top wn rfl ?_
    intro oa1 c1 lab1 w1 e1 o1
    replace cx := cx.step e1 rfl; replace s := s.step e1
    refine LW.move wn rfl rfl ?_
    refine LW.append (ρ := Rep.u8) (xs := []) (ys := a0) hm' o1 (SL.flat' s) cx.top rfl kSl_24 rfl wn rfl rfl rfl ?_
    intro zs oa2 c2 lab2 w2 hz e2 o2
    cases hz
    replace cx := cx.step e2 rfl
    refine LW.assign wn rfl rfl ?_
    refine LW.nil ?_
    refine EW.seq_n ?_
    refine CW.ret ?_
    obtain ⟨lab_, ste_, own_⟩ := o2.out cx t rfl k
    exact EW.ret1 rfl rfl ⟨_, _, _, rfl, ste_, own_, trivial⟩

set_option linter.unusedVariables false in
def m_bytes_Equal (a0 : List UInt8) (a1 : List UInt8) : Option (Bool) :=
  letm (a0 == a1) fun x7 =>
  some x7
set_option maxRecDepth 100000 in
set_option maxHeartbeats 2000000 in
theorem c_bytes_Equal {lab : Lab} {w : World} {a0 : List UInt8} {a1 : List UInt8} {r : Bool} (hm : m_bytes_Equal a0 a1 = some r) (t : Top lab w) {oa1 : Option Addr} {c2 : Nat} (s3 : SL Rep.u8 lab w oa1 c2 a0) {oa4 : Option Addr} {c5 : Nat} (s6 : SL Rep.u8 lab w oa4 c5 a1) : Calls Try.prog 40 [.slice oa1 a0.length c2, .slice oa4 a1.length c5].toArray w (fun e w' => e = .returned (.bool r) ∧ Ste lab 0 w lab w' ∧ True) := by
  refine enter Try.func40 rfl 10 rfl rfl ?_
  have cx := Cx.start t
  replace s3 := s3.keep Keeps.lin
  replace s6 := s6.keep Keeps.lin
  refine CW.sub (G := [(0, .slice oa1 a0.length c2), (1, .slice oa4 a1.length c5)]) ⟨rfl, rfl, trivial⟩ ?_
  unfold m_bytes_Equal at hm
  refine CW.seq ?_
  refine CW.region ?_
  refine LW.assign wn rfl rfl ?_
  refine LW.nil ?_
  refine EW.seq_n ?_
  refine CW.seq ?_
  refine CW.region ?_
  refine LW.move wn rfl rfl ?_
  refine LW.b2s (xs := a0) s3 kUnd_24 kUnd_5 kUnd_9 wn rfl rfl ?_
  refine LW.move wn rfl rfl ?_
  refine LW.b2s (xs := a1) s6 kUnd_24 kUnd_5 kUnd_9 wn rfl rfl ?_
  refine LW.eqs hm wn rfl rfl rfl ?_; clear hm; intro x7 hm
  refine LW.assign wn rfl rfl ?_
  refine LW.nil ?_
  refine EW.seq_n ?_
  refine CW.ret ?_
  obtain rfl := Option.some.inj hm
  exact EW.ret1 rfl rfl ⟨rfl, (cx.ste t), trivial⟩
end Go.Proofs.Ytaefnnamjphieaa
