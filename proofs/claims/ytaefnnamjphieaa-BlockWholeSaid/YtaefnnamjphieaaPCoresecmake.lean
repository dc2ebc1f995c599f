/-
  Package coresecmake: models of its functions, and that the functions compute them. No condition but that the model has a value.
-/
import Derived.Test.YtaefnnamjphieaaFacts
namespace Go.Proofs.Ytaefnnamjphieaa
open Go.Gk Go.RowKit
set_option linter.unusedVariables false in
def m_coresecmake_Short (a0 : List UInt8) : Option (Bool) :=
  letm (decide ((a0.length : Int) ≤ 600)) fun x4 =>
  some x4
set_option maxRecDepth 100000 in
set_option maxHeartbeats 2000000 in
theorem c_coresecmake_Short {lab : Lab} {w : World} {a0 : List UInt8} {r : Bool} (hm : m_coresecmake_Short a0 = some r) (t : Top lab w) {oa1 : Option Addr} {c2 : Nat} (s3 : SL Rep.u8 lab w oa1 c2 a0) : Calls Try.prog 9 [.slice oa1 a0.length c2].toArray w (fun e w' => e = .returned (.bool r) ∧ Ste lab 0 w lab w' ∧ True) := by
  refine enter Try.func9 rfl 6 rfl rfl ?_
  have cx := Cx.start t
  replace s3 := s3.keep Keeps.lin
  refine CW.sub (G := [(0, .slice oa1 a0.length c2)]) ⟨rfl, trivial⟩ ?_
  unfold m_coresecmake_Short at hm
  refine CW.seq ?_
  refine CW.region ?_
  refine LW.assign wn rfl rfl ?_
  refine LW.nil ?_
  refine EW.seq_n ?_
  refine CW.seq ?_
  refine CW.region ?_
  refine LW.move wn rfl rfl ?_
  refine LW.len kUnd_24 wn rfl rfl ?_
  refine LW.leq hm wn rfl rfl rfl ?_; clear hm; intro x4 hm
  refine LW.assign wn rfl rfl ?_
  refine LW.nil ?_
  refine EW.seq_n ?_
  refine CW.ret ?_
  obtain rfl := Option.some.inj hm
  exact EW.ret1 rfl rfl ⟨rfl, (cx.ste t), trivial⟩
set_option linter.unusedVariables false in
def m_coresecmake_New (a0 : List Int) : Option (S_coresecmake_Deck) :=
  some (S_coresecmake_Deck.mk a0 0)
set_option maxRecDepth 100000 in
set_option maxHeartbeats 2000000 in
theorem c_coresecmake_New {lab : Lab} {w : World} {a0 : List Int} {r : S_coresecmake_Deck} {k : Nat} (hm : m_coresecmake_New a0 = some r) (t : Top lab w) {oa1 : Option Addr} {c2 : Nat} (s3 : SL Rep.i64 lab w oa1 c2 a0) : Calls Try.prog 11 [.slice oa1 a0.length c2].toArray w (fun e w' => ∃ (lab' : Lab) (g0_ : Nat) (oa0_0 : Option Addr) (c0_0 : Nat), e = .returned (.pointer (some ⟨g0_, 0, none⟩)) ∧ Ste lab 0 w lab' w' ∧ Box lab' w' k g0_ 61 [.slice oa0_0 r.L.length c0_0, .int .i64 r.At] ∧ SL Rep.i64 lab' w' oa0_0 c0_0 r.L ∧ True) := by
  refine enter Try.func11 rfl 6 rfl rfl ?_
  have cx := Cx.start t
  replace s3 := s3.keep Keeps.lin
  refine CW.sub (G := [(0, .slice oa1 a0.length c2)]) ⟨rfl, trivial⟩ ?_
  unfold m_coresecmake_New at hm
  refine CW.seq ?_
  refine CW.region ?_
  refine LW.assign wn rfl rfl ?_
  refine LW.nil ?_
  refine EW.seq_n ?_
  refine CW.seq ?_
  refine CW.region ?_
  refine LW.move wn rfl rfl ?_
  refine LW.build (vs := [(0, .slice oa1 a0.length c2)]) (cs := [.slice oa1 a0.length c2, .int .i64 0]) rfl ((kBuilt_61 _).trans rfl) wn rfl ?_
  refine LW.box 15 [.slice oa1 a0.length c2, .int .i64 0] rfl rfl cx.top wn rfl ?_
  intro g4 lab5 w6 e7 b8
  replace cx := cx.step e7 rfl
  replace s3 := s3.step e7
  clear e7
  refine LW.assign wn rfl rfl ?_
  refine LW.nil ?_
  refine EW.seq_n ?_
  refine CW.ret ?_
  obtain rfl := Option.some.inj hm
  obtain ⟨lab_, ste_, bx_, kp_⟩ := b8.out cx t rfl k
  exact EW.ret1 rfl rfl ⟨_, g4, oa1, c2, rfl, ste_, bx_, (s3.keep kp_), trivial⟩
set_option linter.unusedVariables false in
def m_coresecmake_Mod (a0 : Int) (a1 : Int) : Option (Int) :=
  bnd (Gk.rem a0 a1) fun x1 =>
  letm (decide (x1 < 0)) fun x2 =>
  bnd ((cond x2 (letm (w64 (x1 + a1)) fun x8 =>
  some (x8))
   (some (x1))) : Option (Int)) fun y3 =>
  some y3
set_option maxRecDepth 100000 in
set_option maxHeartbeats 2000000 in
theorem c_coresecmake_Mod {lab : Lab} {w : World} {a0 : Int} {a1 : Int} {r : Int} (hm : m_coresecmake_Mod a0 a1 = some r) (t : Top lab w) : Calls Try.prog 13 [.int .i64 a0, .int .i64 a1].toArray w (fun e w' => e = .returned (.int .i64 r) ∧ Ste lab 0 w lab w' ∧ True) := by
  refine enter Try.func13 rfl 15 rfl rfl ?_
  have cx := Cx.start t
  refine CW.sub (G := [(0, .int .i64 a0), (1, .int .i64 a1)]) ⟨rfl, rfl, trivial⟩ ?_
  unfold m_coresecmake_Mod at hm
  refine CW.seq ?_
  refine CW.region ?_
  refine LW.assign wn rfl rfl ?_
  refine LW.nil ?_
  refine EW.seq_n ?_
  refine CW.seq ?_
  refine CW.region ?_
  refine LW.move wn rfl rfl ?_
  refine LW.move wn rfl rfl ?_
  refine LW.rem hm wn rfl rfl rfl ?_; clear hm; intro x1 hm
  refine LW.assign wn rfl rfl ?_
  refine LW.nil ?_
  refine EW.seq_n ?_
  refine CW.seq ?_
  refine CW.seq ?_
  refine CW.region ?_
  refine LW.move wn rfl rfl ?_
  refine LW.lss hm wn rfl rfl rfl ?_; clear hm; intro x2 hm
  refine LW.nil ?_
  refine EW.seq_n ?_
  obtain ⟨y3, h4, hm_⟩ := bnd_some hm; clear hm
  refine CW.join_any (fun F_ w5 => ∃ (lab6 : Lab) , F_ = [(5, .int .i64 y3)] ∧ Cx [] w lab w5 lab6 ∧ True) ?_ ?_
  · have hm := h4; clear h4
    refine CW.cond (b := x2) rfl (fun hb7 => ?_) (fun hb7 => ?_)
    · replace hm := cond_t hm hb7
      refine CW.region ?_
      refine LW.move wn rfl rfl ?_
      refine LW.move wn rfl rfl ?_
      refine LW.add hm wn rfl rfl rfl ?_; clear hm; intro x8 hm
      refine LW.assign wn rfl rfl ?_
      refine LW.nil ?_
      obtain rfl := Option.some.inj hm
      refine EW.sub (G := [(5, .int .i64 x8)]) ⟨rfl, trivial⟩ ?_
      exact EW.join_n ⟨_, rfl, cx, trivial⟩
    · replace hm := cond_f hm hb7
      refine CW.skip ?_
      obtain rfl := Option.some.inj hm
      refine EW.sub (G := [(5, .int .i64 x1)]) ⟨rfl, trivial⟩ ?_
      exact EW.join_n ⟨_, rfl, cx, trivial⟩
  · rintro _ w5 ⟨lab6, rfl, cx, _⟩
    have hm := hm_; clear hm_
    refine EW.seq_n ?_
    refine CW.seq ?_
    refine CW.region ?_
    refine LW.move wn rfl rfl ?_
    refine LW.assign wn rfl rfl ?_
    refine LW.nil ?_
    refine EW.seq_n ?_
    refine CW.ret ?_
    obtain rfl := Option.some.inj hm
    exact EW.ret1 rfl rfl ⟨rfl, (cx.ste t), trivial⟩
set_option linter.unusedVariables false in
def m_coresecmake_Deck_Next (a0 : S_coresecmake_Deck) (a1 : Int) : Option (Int × S_coresecmake_Deck) :=
  letm (decide ((a0.L.length : Int) ≤ a0.At)) fun x13 =>
  (cond x13 (some (0, (S_coresecmake_Deck.mk a0.L a0.At)))
   (letm (w64 (a0.At + 1)) fun x18 =>
  letm (w64 (x18 - 1)) fun x29 =>
  bnd (idx a0.L x29) fun x36 =>
  bnd (m_coresecmake_Mod x36 a1) fun y42 =>
  some (y42, (S_coresecmake_Deck.mk a0.L x18))))
set_option maxRecDepth 100000 in
set_option maxHeartbeats 2000000 in
theorem c_coresecmake_Deck_Next {lab : Lab} {w : World} {a0 : S_coresecmake_Deck} {a1 : Int} {r : Int × S_coresecmake_Deck} (hm : m_coresecmake_Deck_Next a0 a1 = some r) (t : Top lab w) {oa1 : Option Addr} {c2 : Nat} {kp gp : Nat} (bp : Box lab w kp gp 61 [.slice oa1 a0.L.length c2, .int .i64 a0.At]) (s3 : SL Rep.i64 lab w oa1 c2 a0.L) (hk : Nat.beq kp 0 = false := by rfl) : Calls Try.prog 21 [.pointer (some ⟨gp, 0, none⟩), .int .i64 a1].toArray w (fun e w' => e = .returned (.int .i64 r.1) ∧ Ste lab kp w lab w' ∧ Box lab w' kp gp 61 [.slice oa1 a0.L.length c2, .int .i64 r.2.At] ∧ True) := by
  refine enter Try.func21 rfl 35 rfl rfl ?_
  have cx := Cx.startP t bp; have b0 := bp; replace bp := bp.inP
  replace s3 := s3.keep (Keeps.linp b0 hk)
  refine CW.sub (G := [(0, .pointer (some ⟨gp, 0, none⟩)), (1, .int .i64 a1)]) ⟨rfl, rfl, trivial⟩ ?_
  unfold m_coresecmake_Deck_Next at hm
  refine CW.seq ?_
  refine CW.region ?_
  refine LW.assign wn rfl rfl ?_
  refine LW.nil ?_
  refine EW.seq_n ?_
  refine CW.seq ?_
  refine CW.seq ?_
  obtain ⟨x13, hx_x13, hm_⟩ := letm_some hm; clear hm; have hm := hm_; clear hm_
  refine CW.sub (G := [(0, .pointer (some ⟨gp, 0, none⟩)), (1, .int .i64 a1)]) ⟨rfl, rfl, trivial⟩ ?_
  refine CW.drawL (fun i_ => []) (fun i_ => by (try dsimp only); (repeat' split) <;> rfl) kMix_ 10 (by kernel_rfl) cx.top ?_
  intro w14 e15
  replace cx := cx.step e15 rfl
  replace bp := bp.step e15 rfl
  replace s3 := s3.step e15
  clear e15
  refine ⟨[(fun L_ lab_ w_ v_ => v_ = .pointer (some ⟨gp, 0, none⟩) ∧ True),
    (fun L_ lab_ w_ v_ => v_ = .pointer (some ⟨gp, 0, none⟩) ∧ True),
    (fun L_ lab_ w_ v_ => v_ = .pointer (some ⟨gp, 1, none⟩) ∧ True),
    (fun L_ lab_ w_ v_ => v_ = .int .i64 a0.At ∧ True),
    (fun L_ lab_ w_ v_ => v_ = .pointer (some ⟨gp, 0, none⟩) ∧ True),
    (fun L_ lab_ w_ v_ => v_ = .pointer (some ⟨gp, 0, none⟩) ∧ True),
    (fun L_ lab_ w_ v_ => v_ = .pointer (some ⟨gp, 0, none⟩) ∧ True),
    (fun L_ lab_ w_ v_ => v_ = .slice oa1 a0.L.length c2 ∧ True),
    (fun L_ lab_ w_ v_ => v_ = .int .i64 (a0.L.length : Int) ∧ True),
    (fun L_ lab_ w_ v_ => v_ = .bool x13 ∧ True)], (fun L_ lab_ w_ => Cx [gp] w lab w_ lab_ ∧ Box lab_ w_ 2 gp 61 [.slice oa1 a0.L.length c2, .int .i64 a0.At] ∧ SL Rep.i64 lab_ w_ oa1 c2 a0.L ∧ True), ?_, ⟨cx, bp, s3, trivial⟩, ?_, ?_⟩
  · exact ⟨by rintro i_ L_ lab_ w_ lab2_ w2_ v_ hne_ hd_ hk_ hp_ ⟨hv_, _⟩; exact ⟨hv_, trivial⟩, by rintro i_ L_ lab_ w_ lab2_ w2_ v_ hne_ hd_ hk_ hp_ ⟨hv_, _⟩; exact ⟨hv_, trivial⟩, by rintro i_ L_ lab_ w_ lab2_ w2_ v_ hne_ hd_ hk_ hp_ ⟨hv_, _⟩; exact ⟨hv_, trivial⟩, by rintro i_ L_ lab_ w_ lab2_ w2_ v_ hne_ hd_ hk_ hp_ ⟨hv_, _⟩; exact ⟨hv_, trivial⟩, by rintro i_ L_ lab_ w_ lab2_ w2_ v_ hne_ hd_ hk_ hp_ ⟨hv_, _⟩; exact ⟨hv_, trivial⟩, by rintro i_ L_ lab_ w_ lab2_ w2_ v_ hne_ hd_ hk_ hp_ ⟨hv_, _⟩; exact ⟨hv_, trivial⟩, by rintro i_ L_ lab_ w_ lab2_ w2_ v_ hne_ hd_ hk_ hp_ ⟨hv_, _⟩; exact ⟨hv_, trivial⟩, by rintro i_ L_ lab_ w_ lab2_ w2_ v_ hne_ hd_ hk_ hp_ ⟨hv_, _⟩; exact ⟨hv_, trivial⟩, by rintro i_ L_ lab_ w_ lab2_ w2_ v_ hne_ hd_ hk_ hp_ ⟨hv_, _⟩; exact ⟨hv_, trivial⟩, by rintro i_ L_ lab_ w_ lab2_ w2_ v_ hne_ hd_ hk_ hp_ ⟨hv_, _⟩; exact ⟨hv_, trivial⟩, trivial⟩
  · refine (ob_succ (ob_succ (ob_succ (ob_succ (ob_succ (ob_succ (ob_succ (ob_succ (ob_succ (ob_succ ob_nil ?_) ?_) ?_) ?_) ?_) ?_) ?_) ?_) ?_) ?_)
    · exact ob_moveb (v := .pointer (some ⟨gp, 0, none⟩)) rfl (fun _ h_ => h_ _ _ rfl) rfl (fun _ _ _ => ⟨rfl, trivial⟩) (fun _ _ _ h_ => h_)
    · intro o_ L_ F_ lab_ w_ ho_ hL_ hw_ hcl_ hb_ hr_ hq_; obtain rfl := Option.some.inj (ho_ : some _ = some o_); obtain ⟨cx, bp, s3, _⟩ := hq_
      obtain ⟨q4, hl5, rfl, _⟩ := hr_ 0 (by decide) (hw_ 0 (by kernel_rfl))
      replace hl5 : Gk.look F_ 5 = some (.pointer (some ⟨gp, 0, none⟩)) := hl5
      refine LW.nilCheck wn rfl hl5 ?_
      refine LW.nil ?_; intro a_ ha_
      exact ⟨rfl, _, _, ha_, ⟨rfl, trivial⟩, Ke.refl, cx, bp, s3, trivial⟩
    · intro o_ L_ F_ lab_ w_ ho_ hL_ hw_ hcl_ hb_ hr_ hq_; obtain rfl := Option.some.inj (ho_ : some _ = some o_); obtain ⟨cx, bp, s3, _⟩ := hq_
      obtain ⟨q5, hl6, rfl, _⟩ := hr_ 1 (by decide) (hw_ 1 (by kernel_rfl))
      replace hl6 : Gk.look F_ 6 = some (.pointer (some ⟨gp, 0, none⟩)) := hl6
      refine LW.fldB 1 kFld_61_1 rfl wn rfl hl6 ?_
      refine LW.nil ?_; intro a_ ha_
      exact ⟨rfl, _, _, ha_, ⟨rfl, trivial⟩, Ke.refl, cx, bp, s3, trivial⟩
    · intro o_ L_ F_ lab_ w_ ho_ hL_ hw_ hcl_ hb_ hr_ hq_; obtain rfl := Option.some.inj (ho_ : some _ = some o_); obtain ⟨cx, bp, s3, _⟩ := hq_
      obtain ⟨q6, hl7, rfl, _⟩ := hr_ 2 (by decide) (hw_ 2 (by kernel_rfl))
      replace hl7 : Gk.look F_ 7 = some (.pointer (some ⟨gp, 1, none⟩)) := hl7
      refine LW.loadB1 bp kOne_3 rfl wn rfl hl7 ?_
      refine LW.nil ?_; intro a_ ha_
      exact ⟨rfl, _, _, ha_, ⟨rfl, trivial⟩, Ke.refl, cx, bp, s3, trivial⟩
    · exact ob_moveb (v := .pointer (some ⟨gp, 0, none⟩)) rfl (fun _ h_ => h_ _ _ rfl) rfl (fun _ _ _ => ⟨rfl, trivial⟩) (fun _ _ _ h_ => h_)
    · intro o_ L_ F_ lab_ w_ ho_ hL_ hw_ hcl_ hb_ hr_ hq_; obtain rfl := Option.some.inj (ho_ : some _ = some o_); obtain ⟨cx, bp, s3, _⟩ := hq_
      obtain ⟨q7, hl9, rfl, _⟩ := hr_ 4 (by decide) (hw_ 4 (by kernel_rfl))
      replace hl9 : Gk.look F_ 9 = some (.pointer (some ⟨gp, 0, none⟩)) := hl9
      refine LW.nilCheck wn rfl hl9 ?_
      refine LW.nil ?_; intro a_ ha_
      exact ⟨rfl, _, _, ha_, ⟨rfl, trivial⟩, Ke.refl, cx, bp, s3, trivial⟩
    · intro o_ L_ F_ lab_ w_ ho_ hL_ hw_ hcl_ hb_ hr_ hq_; obtain rfl := Option.some.inj (ho_ : some _ = some o_); obtain ⟨cx, bp, s3, _⟩ := hq_
      obtain ⟨q8, hl10, rfl, _⟩ := hr_ 5 (by decide) (hw_ 5 (by kernel_rfl))
      replace hl10 : Gk.look F_ 10 = some (.pointer (some ⟨gp, 0, none⟩)) := hl10
      refine LW.fldB 0 kFld_61_0 rfl wn rfl hl10 ?_
      refine LW.nil ?_; intro a_ ha_
      exact ⟨rfl, _, _, ha_, ⟨rfl, trivial⟩, Ke.refl, cx, bp, s3, trivial⟩
    · intro o_ L_ F_ lab_ w_ ho_ hL_ hw_ hcl_ hb_ hr_ hq_; obtain rfl := Option.some.inj (ho_ : some _ = some o_); obtain ⟨cx, bp, s3, _⟩ := hq_
      obtain ⟨q9, hl11, rfl, _⟩ := hr_ 6 (by decide) (hw_ 6 (by kernel_rfl))
      replace hl11 : Gk.look F_ 11 = some (.pointer (some ⟨gp, 0, none⟩)) := hl11
      refine LW.loadB1 bp kOne_23 rfl wn rfl hl11 ?_
      refine LW.nil ?_; intro a_ ha_
      exact ⟨rfl, _, _, ha_, ⟨rfl, trivial⟩, Ke.refl, cx, bp, s3, trivial⟩
    · intro o_ L_ F_ lab_ w_ ho_ hL_ hw_ hcl_ hb_ hr_ hq_; obtain rfl := Option.some.inj (ho_ : some _ = some o_); obtain ⟨cx, bp, s3, _⟩ := hq_
      obtain ⟨q10, hl12, rfl, _⟩ := hr_ 7 (by decide) (hw_ 7 (by kernel_rfl))
      replace hl12 : Gk.look F_ 12 = some (.slice oa1 a0.L.length c2) := hl12
      refine LW.len kUnd_23 wn rfl hl12 ?_
      refine LW.nil ?_; intro a_ ha_
      exact ⟨rfl, _, _, ha_, ⟨rfl, trivial⟩, Ke.refl, cx, bp, s3, trivial⟩
    · intro o_ L_ F_ lab_ w_ ho_ hL_ hw_ hcl_ hb_ hr_ hq_; obtain rfl := Option.some.inj (ho_ : some _ = some o_); obtain ⟨cx, bp, s3, _⟩ := hq_
      obtain ⟨q11, hl8, rfl, _⟩ := hr_ 3 (by decide) (hw_ 3 (by kernel_rfl))
      replace hl8 : Gk.look F_ 8 = some (.int .i64 a0.At) := hl8
      obtain ⟨q12, hl13, rfl, _⟩ := hr_ 8 (by decide) (hw_ 8 (by kernel_rfl))
      replace hl13 : Gk.look F_ 13 = some (.int .i64 (a0.L.length : Int)) := hl13
      refine LW.geq (letm_eq hx_x13) wn rfl hl8 hl13 ?_; intro x_ hx_; cases hx_
      refine LW.nil ?_; intro a_ ha_
      exact ⟨rfl, _, _, ha_, ⟨rfl, trivial⟩, Ke.refl, cx, bp, s3, trivial⟩
  · intro F_ lab_ w_ hb_ hr_ hq_; obtain ⟨cx, bp, s3, _⟩ := hq_
    obtain ⟨q16, hl14, rfl, _⟩ := hr_ 9 (by decide)
    refine LW.sub (G := [(0, .pointer (some ⟨gp, 0, none⟩)), (1, .int .i64 a1), (14, .bool x13)]) ⟨hb_ 0 _ rfl, hb_ 1 _ rfl, hl14, trivial⟩ ?_
    simp only [List.drop_succ_cons, List.drop_nil, List.drop_zero]
    refine LW.nil ?_
    refine EW.seq_n ?_
    refine CW.cond (b := x13) rfl (fun hb17 => ?_) (fun hb17 => ?_)
    · replace hm := cond_t hm hb17
      refine CW.seq ?_
      refine CW.region ?_
      refine LW.assign wn rfl rfl ?_
      refine LW.nil ?_
      refine EW.seq_n ?_
      refine CW.ret ?_
      refine EW.seq_r ?_
      obtain rfl := Option.some.inj hm
      exact EW.ret1 rfl rfl ⟨rfl, (cx.steP t b0 hk), (bp.outP b0), trivial⟩
    · replace hm := cond_f hm hb17
      refine CW.skip ?_
      refine EW.seq_n ?_
      refine CW.seq ?_
      refine CW.region ?_
      refine LW.move wn rfl rfl ?_
      refine LW.nilCheck wn rfl rfl ?_
      refine LW.fldB 1 kFld_61_1 rfl wn rfl rfl ?_
      refine LW.loadB1 bp kOne_3 rfl wn rfl rfl ?_
      refine LW.add hm wn rfl rfl rfl ?_; clear hm; intro x18 hm
      refine LW.nilCheck wn rfl rfl ?_
      refine LW.fldB 1 kFld_61_1 rfl wn rfl rfl ?_
      refine LW.storeB1 [.slice oa1 a0.L.length c2, .int .i64 x18] bp cx.top rfl kOne_3 rfl rfl rfl rfl wn rfl rfl ?_
      intro w19 e20 b21; clear bp
      replace cx := cx.step e20 rfl
      replace s3 := s3.step e20
      clear e20
      refine LW.nil ?_
      refine EW.seq_n ?_
      refine CW.seq ?_
      obtain ⟨x29, hx_x29, hm_⟩ := letm_some hm; clear hm; have hm := hm_; clear hm_
      obtain ⟨x36, hx_x36, hm_⟩ := bnd_some hm; clear hm; have hm := hm_; clear hm_
      obtain ⟨y42, hx_y42, hm_⟩ := bnd_some hm; clear hm; have hm := hm_; clear hm_
      refine CW.sub (G := [(0, .pointer (some ⟨gp, 0, none⟩)), (1, .int .i64 a1)]) ⟨rfl, rfl, trivial⟩ ?_
      refine CW.drawL (fun i_ => []) (fun i_ => by (try dsimp only); (repeat' split) <;> rfl) kMix_ 13 (by kernel_rfl) cx.top ?_
      intro w46 e47
      replace cx := cx.step e47 rfl
      replace b21 := b21.step e47 rfl
      replace s3 := s3.step e47
      clear e47
      refine ⟨[(fun L_ lab_ w_ v_ => v_ = .pointer (some ⟨gp, 0, none⟩) ∧ True),
    (fun L_ lab_ w_ v_ => v_ = .pointer (some ⟨gp, 0, none⟩) ∧ True),
    (fun L_ lab_ w_ v_ => v_ = .pointer (some ⟨gp, 0, none⟩) ∧ True),
    (fun L_ lab_ w_ v_ => v_ = .slice oa1 a0.L.length c2 ∧ True),
    (fun L_ lab_ w_ v_ => v_ = .pointer (some ⟨gp, 0, none⟩) ∧ True),
    (fun L_ lab_ w_ v_ => v_ = .pointer (some ⟨gp, 0, none⟩) ∧ True),
    (fun L_ lab_ w_ v_ => v_ = .pointer (some ⟨gp, 1, none⟩) ∧ True),
    (fun L_ lab_ w_ v_ => v_ = .int .i64 x18 ∧ True),
    (fun L_ lab_ w_ v_ => v_ = .int .i64 x29 ∧ True),
    (fun L_ lab_ w_ v_ => ∃ (p32 : Addr), v_ = .pointer (some p32) ∧ At lab_ w_ p32 [.int .i64 x36] ∧ True),
    (fun L_ lab_ w_ v_ => v_ = .int .i64 x36 ∧ True),
    (fun L_ lab_ w_ v_ => v_ = .int .i64 a1 ∧ True),
    (fun L_ lab_ w_ v_ => v_ = .int .i64 y42 ∧ True)], (fun L_ lab_ w_ => Cx [gp] w lab w_ lab_ ∧ Box lab_ w_ 2 gp 61 [.slice oa1 a0.L.length c2, .int .i64 x18] ∧ SL Rep.i64 lab_ w_ oa1 c2 a0.L ∧ True), ?_, ⟨cx, b21, s3, trivial⟩, ?_, ?_⟩
      · exact ⟨by rintro i_ L_ lab_ w_ lab2_ w2_ v_ hne_ hd_ hk_ hp_ ⟨hv_, _⟩; exact ⟨hv_, trivial⟩, by rintro i_ L_ lab_ w_ lab2_ w2_ v_ hne_ hd_ hk_ hp_ ⟨hv_, _⟩; exact ⟨hv_, trivial⟩, by rintro i_ L_ lab_ w_ lab2_ w2_ v_ hne_ hd_ hk_ hp_ ⟨hv_, _⟩; exact ⟨hv_, trivial⟩, by rintro i_ L_ lab_ w_ lab2_ w2_ v_ hne_ hd_ hk_ hp_ ⟨hv_, _⟩; exact ⟨hv_, trivial⟩, by rintro i_ L_ lab_ w_ lab2_ w2_ v_ hne_ hd_ hk_ hp_ ⟨hv_, _⟩; exact ⟨hv_, trivial⟩, by rintro i_ L_ lab_ w_ lab2_ w2_ v_ hne_ hd_ hk_ hp_ ⟨hv_, _⟩; exact ⟨hv_, trivial⟩, by rintro i_ L_ lab_ w_ lab2_ w2_ v_ hne_ hd_ hk_ hp_ ⟨hv_, _⟩; exact ⟨hv_, trivial⟩, by rintro i_ L_ lab_ w_ lab2_ w2_ v_ hne_ hd_ hk_ hp_ ⟨hv_, _⟩; exact ⟨hv_, trivial⟩, by rintro i_ L_ lab_ w_ lab2_ w2_ v_ hne_ hd_ hk_ hp_ ⟨hv_, _⟩; exact ⟨hv_, trivial⟩, by rintro i_ L_ lab_ w_ lab2_ w2_ v_ hne_ hd_ hk_ hp_ ⟨p32, hv_, ha35, _⟩; exact ⟨p32, hv_, (ha35.keep hp_), trivial⟩, by rintro i_ L_ lab_ w_ lab2_ w2_ v_ hne_ hd_ hk_ hp_ ⟨hv_, _⟩; exact ⟨hv_, trivial⟩, by rintro i_ L_ lab_ w_ lab2_ w2_ v_ hne_ hd_ hk_ hp_ ⟨hv_, _⟩; exact ⟨hv_, trivial⟩, by rintro i_ L_ lab_ w_ lab2_ w2_ v_ hne_ hd_ hk_ hp_ ⟨hv_, _⟩; exact ⟨hv_, trivial⟩, trivial⟩
      · refine (ob_succ (ob_succ (ob_succ (ob_succ (ob_succ (ob_succ (ob_succ (ob_succ (ob_succ (ob_succ (ob_succ (ob_succ (ob_succ ob_nil ?_) ?_) ?_) ?_) ?_) ?_) ?_) ?_) ?_) ?_) ?_) ?_) ?_)
        · exact ob_moveb (v := .pointer (some ⟨gp, 0, none⟩)) rfl (fun _ h_ => h_ _ _ rfl) rfl (fun _ _ _ => ⟨rfl, trivial⟩) (fun _ _ _ h_ => h_)
        · intro o_ L_ F_ lab_ w_ ho_ hL_ hw_ hcl_ hb_ hr_ hq_; obtain rfl := Option.some.inj (ho_ : some _ = some o_); obtain ⟨cx, b21, s3, _⟩ := hq_
          obtain ⟨q22, hl22, rfl, _⟩ := hr_ 0 (by decide) (hw_ 0 (by kernel_rfl))
          replace hl22 : Gk.look F_ 22 = some (.pointer (some ⟨gp, 0, none⟩)) := hl22
          refine LW.nilCheck wn rfl hl22 ?_
          refine LW.nil ?_; intro a_ ha_
          exact ⟨rfl, _, _, ha_, ⟨rfl, trivial⟩, Ke.refl, cx, b21, s3, trivial⟩
        · intro o_ L_ F_ lab_ w_ ho_ hL_ hw_ hcl_ hb_ hr_ hq_; obtain rfl := Option.some.inj (ho_ : some _ = some o_); obtain ⟨cx, b21, s3, _⟩ := hq_
          obtain ⟨q23, hl23, rfl, _⟩ := hr_ 1 (by decide) (hw_ 1 (by kernel_rfl))
          replace hl23 : Gk.look F_ 23 = some (.pointer (some ⟨gp, 0, none⟩)) := hl23
          refine LW.fldB 0 kFld_61_0 rfl wn rfl hl23 ?_
          refine LW.nil ?_; intro a_ ha_
          exact ⟨rfl, _, _, ha_, ⟨rfl, trivial⟩, Ke.refl, cx, b21, s3, trivial⟩
        · intro o_ L_ F_ lab_ w_ ho_ hL_ hw_ hcl_ hb_ hr_ hq_; obtain rfl := Option.some.inj (ho_ : some _ = some o_); obtain ⟨cx, b21, s3, _⟩ := hq_
          obtain ⟨q24, hl24, rfl, _⟩ := hr_ 2 (by decide) (hw_ 2 (by kernel_rfl))
          replace hl24 : Gk.look F_ 24 = some (.pointer (some ⟨gp, 0, none⟩)) := hl24
          refine LW.loadB1 b21 kOne_23 rfl wn rfl hl24 ?_
          refine LW.nil ?_; intro a_ ha_
          exact ⟨rfl, _, _, ha_, ⟨rfl, trivial⟩, Ke.refl, cx, b21, s3, trivial⟩
        · exact ob_moveb (v := .pointer (some ⟨gp, 0, none⟩)) rfl (fun _ h_ => h_ _ _ rfl) rfl (fun _ _ _ => ⟨rfl, trivial⟩) (fun _ _ _ h_ => h_)
        · intro o_ L_ F_ lab_ w_ ho_ hL_ hw_ hcl_ hb_ hr_ hq_; obtain rfl := Option.some.inj (ho_ : some _ = some o_); obtain ⟨cx, b21, s3, _⟩ := hq_
          obtain ⟨q25, hl26, rfl, _⟩ := hr_ 4 (by decide) (hw_ 4 (by kernel_rfl))
          replace hl26 : Gk.look F_ 26 = some (.pointer (some ⟨gp, 0, none⟩)) := hl26
          refine LW.nilCheck wn rfl hl26 ?_
          refine LW.nil ?_; intro a_ ha_
          exact ⟨rfl, _, _, ha_, ⟨rfl, trivial⟩, Ke.refl, cx, b21, s3, trivial⟩
        · intro o_ L_ F_ lab_ w_ ho_ hL_ hw_ hcl_ hb_ hr_ hq_; obtain rfl := Option.some.inj (ho_ : some _ = some o_); obtain ⟨cx, b21, s3, _⟩ := hq_
          obtain ⟨q26, hl27, rfl, _⟩ := hr_ 5 (by decide) (hw_ 5 (by kernel_rfl))
          replace hl27 : Gk.look F_ 27 = some (.pointer (some ⟨gp, 0, none⟩)) := hl27
          refine LW.fldB 1 kFld_61_1 rfl wn rfl hl27 ?_
          refine LW.nil ?_; intro a_ ha_
          exact ⟨rfl, _, _, ha_, ⟨rfl, trivial⟩, Ke.refl, cx, b21, s3, trivial⟩
        · intro o_ L_ F_ lab_ w_ ho_ hL_ hw_ hcl_ hb_ hr_ hq_; obtain rfl := Option.some.inj (ho_ : some _ = some o_); obtain ⟨cx, b21, s3, _⟩ := hq_
          obtain ⟨q27, hl28, rfl, _⟩ := hr_ 6 (by decide) (hw_ 6 (by kernel_rfl))
          replace hl28 : Gk.look F_ 28 = some (.pointer (some ⟨gp, 1, none⟩)) := hl28
          refine LW.loadB1 b21 kOne_3 rfl wn rfl hl28 ?_
          refine LW.nil ?_; intro a_ ha_
          exact ⟨rfl, _, _, ha_, ⟨rfl, trivial⟩, Ke.refl, cx, b21, s3, trivial⟩
        · intro o_ L_ F_ lab_ w_ ho_ hL_ hw_ hcl_ hb_ hr_ hq_; obtain rfl := Option.some.inj (ho_ : some _ = some o_); obtain ⟨cx, b21, s3, _⟩ := hq_
          obtain ⟨q28, hl29, rfl, _⟩ := hr_ 7 (by decide) (hw_ 7 (by kernel_rfl))
          replace hl29 : Gk.look F_ 29 = some (.int .i64 x18) := hl29
          refine LW.sub' (letm_eq hx_x29) wn rfl hl29 rfl ?_; intro x_ hx_; cases hx_
          refine LW.nil ?_; intro a_ ha_
          exact ⟨rfl, _, _, ha_, ⟨rfl, trivial⟩, Ke.refl, cx, b21, s3, trivial⟩
        · intro o_ L_ F_ lab_ w_ ho_ hL_ hw_ hcl_ hb_ hr_ hq_; obtain rfl := Option.some.inj (ho_ : some _ = some o_); obtain ⟨cx, b21, s3, _⟩ := hq_
          obtain ⟨q30, hl25, rfl, _⟩ := hr_ 3 (by decide) (hw_ 3 (by kernel_rfl))
          replace hl25 : Gk.look F_ 25 = some (.slice oa1 a0.L.length c2) := hl25
          obtain ⟨q31, hl30, rfl, _⟩ := hr_ 8 (by decide) (hw_ 8 (by kernel_rfl))
          replace hl30 : Gk.look F_ 30 = some (.int .i64 x29) := hl30
          refine LW.index (bnd_ret hx_x36) s3 kSl_23 wn rfl hl25 hl30 ?_; intro x_ p32 cs33 hx_ hr34 ha35; cases hx_
          obtain rfl : cs33 = [.int .i64 x36] := hr34
          refine LW.nil ?_; intro a_ ha_
          exact ⟨rfl, _, _, ha_, ⟨p32, rfl, ha35, trivial⟩, Ke.refl, cx, b21, s3, trivial⟩
        · intro o_ L_ F_ lab_ w_ ho_ hL_ hw_ hcl_ hb_ hr_ hq_; obtain rfl := Option.some.inj (ho_ : some _ = some o_); obtain ⟨cx, b21, s3, _⟩ := hq_
          obtain ⟨q39, hl31, p37, rfl, ha38, _⟩ := hr_ 9 (by decide) (hw_ 9 (by kernel_rfl))
          replace hl31 : Gk.look F_ 31 = some (.pointer (some p37)) := hl31
          refine LW.loadA1 (ha38.cell0 rfl) kOne_3 wn rfl hl31 ?_
          refine LW.nil ?_; intro a_ ha_
          exact ⟨rfl, _, _, ha_, ⟨rfl, trivial⟩, Ke.refl, cx, b21, s3, trivial⟩
        · exact ob_moveb (v := .int .i64 a1) rfl (fun _ h_ => h_ _ _ rfl) rfl (fun _ _ _ => ⟨rfl, trivial⟩) (fun _ _ _ h_ => h_)
        · intro o_ L_ F_ lab_ w_ ho_ hL_ hw_ hcl_ hb_ hr_ hq_; obtain rfl := Option.some.inj (ho_ : some _ = some o_); obtain ⟨cx, b21, s3, _⟩ := hq_
          obtain ⟨q40, hl32, rfl, _⟩ := hr_ 10 (by decide) (hw_ 10 (by kernel_rfl))
          replace hl32 : Gk.look F_ 32 = some (.int .i64 x36) := hl32
          obtain ⟨q41, hl33, rfl, _⟩ := hr_ 11 (by decide) (hw_ 11 (by kernel_rfl))
          replace hl33 : Gk.look F_ 33 = some (.int .i64 a1) := hl33
          refine LW.call kFn_13 (c_coresecmake_Mod hx_y42 cx.top) wn rfl (evs_cons hl32 (evs_cons hl33 evs_nil)) ?_
          rintro _ w43 ⟨rfl, e44, _⟩; refine ⟨_, rfl, ?_⟩
          replace cx := cx.step e44 rfl
          replace b21 := b21.step e44 rfl
          replace s3 := s3.step e44
          refine LW.nil ?_; intro a_ ha_
          exact ⟨rfl, _, _, ha_, ⟨rfl, trivial⟩, e44.ke0, cx, b21, s3, trivial⟩
      · intro F_ lab_ w_ hb_ hr_ hq_; obtain ⟨cx, b21, s3, _⟩ := hq_
        obtain ⟨q48, hl34, rfl, _⟩ := hr_ 12 (by decide)
        refine LW.sub (G := [(0, .pointer (some ⟨gp, 0, none⟩)), (1, .int .i64 a1), (34, .int .i64 y42)]) ⟨hb_ 0 _ rfl, hb_ 1 _ rfl, hl34, trivial⟩ ?_
        simp only [List.drop_succ_cons, List.drop_zero]
        refine LW.assign wn rfl rfl ?_
        refine LW.nil ?_
        refine EW.seq_n ?_
        refine CW.ret ?_
        obtain rfl := Option.some.inj hm
        exact EW.ret1 rfl rfl ⟨rfl, (cx.steP t b0 hk), (b21.outP b0), trivial⟩
set_option linter.unusedVariables false in
def m_coresecmake_Some_l1 (a0 : Int) : Nat → Nat → (List UInt8) → Option ((List UInt8))
    | 0, k15, x8 => some (x8)
    | n14 + 1, k15, x8 => letm (toU64 a0) fun x18 =>
  bnd (Gk.rem ((k15 : Nat) : Int) 8) fun x19 =>
  letm (toU64 x19) fun x20 =>
  letm ((8 : UInt64) * x20) fun x21 =>
  bnd (shr64 x18 (x21.toNat : Int)) fun x22 =>
  letm (toU8 (x22.toNat : Int)) fun x23 =>
  bnd (Gk.quo ((k15 : Nat) : Int) 8) fun x24 =>
  letm (toU8 x24) fun x25 =>
  letm (x23 + x25) fun x26 =>
  bnd (app x8 ([x26])) fun x33 =>
  m_coresecmake_Some_l1 a0 n14 (k15 + 1) x33
set_option linter.unusedVariables false in
def m_coresecmake_Some (a0 : Int) (a1 : Int) : Option ((List UInt8)) :=
  bnd (bnd (rng a1) fun j16 =>
  m_coresecmake_Some_l1 a0 j16 0 ([]) : Option ((List UInt8))) fun y1 =>
  some y1
set_option maxRecDepth 100000 in
set_option maxHeartbeats 2000000 in
theorem c_coresecmake_Some {lab : Lab} {w : World} {a0 : Int} {a1 : Int} {r : (List UInt8)} (hm : m_coresecmake_Some a0 a1 = some r) (t : Top lab w) : Calls Try.prog 16 [.int .i64 a0, .int .i64 a1].toArray w (fun e w' => ∃ (oa0_0 : Option Addr) (c0_0 : Nat), e = .returned (.slice oa0_0 r.length c0_0) ∧ Ste lab 0 w lab w' ∧ SL Rep.u8 lab w' oa0_0 c0_0 r ∧ True) := by
  refine enter Try.func16 rfl 28 rfl rfl ?_
  have cx := Cx.start t
  refine CW.sub (G := [(0, .int .i64 a0), (1, .int .i64 a1)]) ⟨rfl, rfl, trivial⟩ ?_
  unfold m_coresecmake_Some at hm
  refine CW.seq ?_
  refine CW.region ?_
  refine LW.assign wn rfl rfl ?_
  refine LW.nil ?_
  refine EW.seq_n ?_
  refine CW.seq ?_
  refine CW.region ?_
  refine LW.assign wn rfl rfl ?_
  refine LW.nil ?_
  refine EW.seq_n ?_
  refine CW.seq ?_
  refine CW.seq ?_
  refine CW.region ?_
  refine LW.move wn rfl rfl ?_
  refine LW.move wn rfl rfl ?_
  refine LW.nil ?_
  refine EW.seq_n ?_
  obtain ⟨y1, h2, hm_⟩ := bnd_some hm; clear hm
  refine CW.join_any (fun F_ w6 => ∃ (lab7 : Lab) (oa3 : Option Addr) (c4 : Nat), F_ = [(5, .slice oa3 y1.length c4)] ∧ Cx [] w lab w6 lab7 ∧ Own Rep.u8 lab7 w6 15 5 oa3 c4 y1 ∧ True) ?_ ?_
  · have hm := h2; clear h2
    refine CW.block ?_
    obtain ⟨j16, h17, hm_⟩ := bnd_some hm; clear hm; have hm := hm_; clear hm_; have hn_h17 := (rng_some h17).1; obtain rfl := (rng_some h17).2
    refine CW.sub (G := [(0, .int .i64 a0), (5, .slice none ([] : List UInt8).length 0), (7, .int .i64 a1), (8, .int .i64 0)]) ⟨rfl, rfl, rfl, rfl, trivial⟩ ?_
    refine CW.loop (fun n14 F_ w12 => ∃ (lab13 : Lab) (k15 : Nat) (x8 : List UInt8) (oa9 : Option Addr) (c10 : Nat), n14 + k15 = a1.toNat ∧ F_ = [(0, .int .i64 a0), (5, .slice oa9 x8.length c10), (7, .int .i64 a1), (8, .int .i64 ((k15 : Nat) : Int))] ∧ Cx [] w lab w12 lab13 ∧ Own Rep.u8 lab13 w12 15 5 oa9 c10 x8 ∧ m_coresecmake_Some_l1 a0 n14 k15 x8 = some y1) _ ⟨_, 0, _, none, 0, rfl, rfl, cx, Own.nil, hm⟩ ?_
    rintro n14 _ w12 ⟨lab13, k15, x8, oa9, c10, hd, rfl, cx, o11, hm⟩
    rcases n14 with _ | n14
    · rw [m_coresecmake_Some_l1] at hm; have hlt := rng_stop hd
      refine CW.seq ?_
      refine CW.region ?_
      refine LW.lss_lit hlt wn rfl rfl rfl ?_
      refine LW.nil ?_
      refine EW.seq_n ?_
      refine CW.seq ?_
      refine CW.cond_f rfl ?_
      refine CW.exit ?_
      refine EW.seq_x ?_
      refine EW.join_x ?_
      refine EW.block_x ?_
      obtain rfl := Option.some.inj hm
      refine EW.sub (G := [(5, .slice oa9 x8.length c10)]) ⟨rfl, trivial⟩ ?_
      exact EW.join_n ⟨_, oa9, c10, rfl, cx, o11, trivial⟩
    · rw [m_coresecmake_Some_l1] at hm; obtain ⟨hlt, hlt2, hd⟩ := rng_go hd
      refine CW.seq ?_
      refine CW.region ?_
      refine LW.lss_lit hlt wn rfl rfl rfl ?_
      refine LW.nil ?_
      refine EW.seq_n ?_
      refine CW.seq ?_
      refine CW.cond_t rfl ?_
      refine CW.skip ?_
      refine EW.seq_n ?_
      refine CW.seq ?_
      refine CW.block ?_
      refine CW.seq ?_
      refine CW.region ?_
      refine LW.move wn rfl rfl ?_
      refine LW.assign wn rfl rfl ?_
      refine LW.nil ?_
      refine EW.seq_n ?_
      refine CW.region ?_
      refine LW.move wn rfl rfl ?_
      refine LW.move wn rfl rfl ?_
      refine LW.cvt_u64 hm kIs_3 kInt_65 wn rfl rfl ?_; clear hm; intro x18 hm
      refine LW.move wn rfl rfl ?_
      refine LW.rem hm wn rfl rfl rfl ?_; clear hm; intro x19 hm
      refine LW.cvt_u64 hm kIs_3 kInt_37 wn rfl rfl ?_; clear hm; intro x20 hm
      refine LW.mul64 hm wn rfl rfl rfl ?_; clear hm; intro x21 hm
      refine LW.shr64 hm wn rfl rfl rfl ?_; clear hm; intro x22 hm
      refine LW.cvt_u8 hm kIs_65 kInt_5 wn rfl rfl ?_; clear hm; intro x23 hm
      refine LW.move wn rfl rfl ?_
      refine LW.quo hm wn rfl rfl rfl ?_; clear hm; intro x24 hm
      refine LW.cvt_u8 hm kIs_3 kInt_5 wn rfl rfl ?_; clear hm; intro x25 hm
      refine LW.add8 hm wn rfl rfl rfl ?_; clear hm; intro x26 hm
      refine LW.buildSlice (ρ := Rep.u8) (vs := [(0, .int .u8 (x26.toNat : Int))]) (css := [[.int .u8 (x26.toNat : Int)]]) (xs := [x26]) rfl kSl_24 kZero_5 (by kernel_rfl) rfl rfl ⟨rfl, trivial⟩ cx.top wn rfl ?_
      intro oa27 c28 lab31 w32 e29 s30
      replace cx := cx.step e29 rfl
      replace o11 := o11.step e29 rfl
      clear e29
      refine LW.append (ρ := Rep.u8) (xs := x8) (ys := [x26]) hm o11 (SL.flat' (lab := _) (c := c28) s30) cx.top rfl kSl_24 rfl wn rfl rfl rfl ?_; clear hm; intro x33 oa34 c35 lab36 w37 hm e38 o39
      replace cx := cx.step e38 rfl
      replace s30 := s30.step e38
      clear e38
      refine LW.assign wn rfl rfl ?_
      refine LW.nil ?_
      refine EW.block_n ?_
      refine EW.seq_n ?_
      refine CW.region ?_
      refine LW.add_lit (w64_succ' hlt2 hn_h17) wn rfl rfl rfl ?_
      refine LW.move wn rfl rfl ?_
      refine LW.nil ?_
      refine EW.sub (G := [(0, .int .i64 a0), (5, .slice oa34 x33.length c35), (7, .int .i64 a1), (8, .int .i64 ((k15 + 1 : Nat) : Int))]) ⟨rfl, rfl, rfl, rfl, trivial⟩ ?_
      exact EW.join_n ⟨_, Nat.lt_succ_self _, _, k15 + 1, _, oa34, c35, hd, rfl, cx, o39, hm⟩
  · rintro _ w6 ⟨lab7, oa3, c4, rfl, cx, o5, _⟩
    have hm := hm_; clear hm_
    refine EW.seq_n ?_
    refine CW.seq ?_
    refine CW.region ?_
    refine LW.move wn rfl rfl ?_
    refine LW.assign wn rfl rfl ?_
    refine LW.nil ?_
    refine EW.seq_n ?_
    refine CW.ret ?_
    obtain rfl := Option.some.inj hm
    exact EW.ret1 rfl rfl ⟨oa3, c4, rfl, (cx.ste t), (o5.sl (cx.keeps t) (cx.own0 t rfl)), trivial⟩
end Go.Proofs.Ytaefnnamjphieaa
