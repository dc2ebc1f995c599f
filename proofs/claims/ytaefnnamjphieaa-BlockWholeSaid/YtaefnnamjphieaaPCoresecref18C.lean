/-
  Package coresecref18: models of its functions, and that the functions compute them. No condition but that the model has a value.
-/
import Derived.Test.YtaefnnamjphieaaPCoresecref18B
namespace Go.Proofs.Ytaefnnamjphieaa
open Go.Gk Go.RowKit
set_option linter.unusedVariables false in
def m_coresecref18_Cut (a0 : List UInt8) (a1 : Int) (a2 : Int) : Option ((List UInt8) × Bool × Int) :=
  bnd (m_coresecref18_valid (S_api_Block.mk a1 false a2)) fun y4 =>
  letm (!y4) fun x9 =>
  (cond x9 (some ([], false, 1))
   (bnd (m_coresecref18_length a2) fun y11 =>
  letm (w64 (a1 * y11)) fun x16 =>
  bnd (letm (decide ((a0.length : Int) ≤ x16)) fun x21 =>
  (cond x21 (letm (w64 (x16 + (a0.length : Int))) fun x24 =>
  letm (decide (0 < x24)) fun x25 =>
  some (x25))
   (some (false))) : Option (Bool)) fun y17 =>
  (cond y17 (some ([], false, 10))
   (bnd (m_coresecref18_length a2) fun y27 =>
  letm (w64 (x16 + y27)) fun x32 =>
  letm (min (a0.length : Int) x32) fun x33 =>
  bnd (cut a0 x16 x33) fun x34 =>
  bnd (app ([] : List UInt8) x34) fun x38 =>
  letm (decide (x33 < (a0.length : Int))) fun x45 =>
  some (x38, x45, 0)))))
set_option maxRecDepth 100000 in
set_option maxHeartbeats 2000000 in
theorem c_coresecref18_Cut {lab : Lab} {w : World} {a0 : List UInt8} {a1 : Int} {a2 : Int} {r : (List UInt8) × Bool × Int} (hm : m_coresecref18_Cut a0 a1 a2 = some r) (t : Top lab w) {oa1 : Option Addr} {c2 : Nat} (s3 : SL Rep.u8 lab w oa1 c2 a0) : Calls Try.prog 22 [.slice oa1 a0.length c2, .int .i64 a1, .int .i64 a2].toArray w (fun e w' => ∃ (oa0_0 : Option Addr) (c0_0 : Nat), e = .returned (.tuple [.slice oa0_0 r.1.length c0_0, .bool r.2.1, .int .i64 r.2.2].toArray) ∧ Ste lab 0 w lab w' ∧ SL Rep.u8 lab w' oa0_0 c0_0 r.1 ∧ True) := by
  refine enter Try.func22 rfl 47 rfl rfl ?_
  have cx := Cx.start t
  replace s3 := s3.keep Keeps.lin
  refine CW.sub (G := [(0, .slice oa1 a0.length c2), (1, .int .i64 a1), (2, .int .i64 a2)]) ⟨rfl, rfl, rfl, trivial⟩ ?_
  unfold m_coresecref18_Cut at hm
  refine CW.seq ?_
  refine CW.region ?_
  refine LW.assign wn rfl rfl ?_
  refine LW.assign wn rfl rfl ?_
  refine LW.assign wn rfl rfl ?_
  refine LW.nil ?_
  refine EW.seq_n ?_
  refine CW.seq ?_
  refine CW.seq ?_
  refine CW.region ?_
  refine LW.move wn rfl rfl ?_
  refine LW.move wn rfl rfl ?_
  refine LW.build (vs := [(0, .int .i64 a1), (2, .int .i64 a2)]) (cs := [.int .i64 a1, .bool false, .int .i64 a2]) rfl ((kBuilt_26 _).trans rfl) wn rfl ?_
  obtain ⟨y4, h8, hm_⟩ := bnd_some hm; clear hm; have hm := hm_; clear hm_
  refine LW.call kFn_34 (c_coresecref18_valid h8 cx.top) wn rfl rfl ?_
  rintro _ w5 ⟨rfl, e6, _⟩; refine ⟨_, rfl, ?_⟩
  replace cx := cx.step e6 rfl
  replace s3 := s3.step e6
  clear e6
  refine LW.not hm wn rfl rfl ?_; clear hm; intro x9 hm
  refine LW.nil ?_
  refine EW.seq_n ?_
  refine CW.cond (b := x9) rfl (fun hb10 => ?_) (fun hb10 => ?_)
  · replace hm := cond_t hm hb10
    refine CW.seq ?_
    refine CW.region ?_
    refine LW.assign wn rfl rfl ?_
    refine LW.assign wn rfl rfl ?_
    refine LW.assign wn rfl rfl ?_
    refine LW.nil ?_
    refine EW.seq_n ?_
    refine CW.ret ?_
    refine EW.seq_r ?_
    obtain rfl := Option.some.inj hm
    exact EW.rets (vs := [.slice none 0 0, .bool false, .int .i64 1]) rfl ⟨rfl, rfl, rfl, trivial⟩ rfl ⟨none, 0, rfl, (cx.ste t), SL.nil, trivial⟩
  · replace hm := cond_f hm hb10
    refine CW.skip ?_
    refine EW.seq_n ?_
    refine CW.seq ?_
    refine CW.region ?_
    refine LW.move wn rfl rfl ?_
    refine LW.move wn rfl rfl ?_
    obtain ⟨y11, h15, hm_⟩ := bnd_some hm; clear hm; have hm := hm_; clear hm_
    refine LW.call kFn_35 (c_coresecref18_length h15 cx.top) wn rfl rfl ?_
    rintro _ w12 ⟨rfl, e13, _⟩; refine ⟨_, rfl, ?_⟩
    replace cx := cx.step e13 rfl
    replace s3 := s3.step e13
    clear e13
    refine LW.mul hm wn rfl rfl rfl ?_; clear hm; intro x16 hm
    refine LW.assign wn rfl rfl ?_
    refine LW.nil ?_
    refine EW.seq_n ?_
    refine CW.seq ?_
    refine CW.seq ?_
    obtain ⟨y17, h18, hm_⟩ := bnd_some hm; clear hm
    refine CW.join_any (fun F_ w19 => ∃ (lab20 : Lab) , F_ = [(0, .slice oa1 a0.length c2), (2, .int .i64 a2), (9, .int .i64 x16), (30, .bool y17)] ∧ Cx [] w lab w19 lab20 ∧ SL Rep.u8 lab20 w19 oa1 c2 a0 ∧ True) ?_ ?_
    · have hm := h18; clear h18
      refine CW.region ?_
      refine LW.move wn rfl rfl ?_
      refine LW.move wn rfl rfl ?_
      refine LW.len kUnd_24 wn rfl rfl ?_
      refine LW.geq hm wn rfl rfl rfl ?_; clear hm; intro x21 hm
      refine LW.move wn rfl rfl ?_
      rcases Bool.eq_false_or_eq_true x21 with hb23 | hb23
      · replace hm := cond_t hm hb23
        refine LW.move (ws 24 rfl (bk rfl hb23)) rfl rfl ?_
        refine LW.move (ws 24 rfl (bk rfl hb23)) rfl rfl ?_
        refine LW.len kUnd_24 (ws 24 rfl (bk rfl hb23)) rfl rfl ?_
        refine LW.add hm (ws 24 rfl (bk rfl hb23)) rfl rfl rfl ?_; clear hm; intro x24 hm
        refine LW.gtr hm (ws 24 rfl (bk rfl hb23)) rfl rfl rfl ?_; clear hm; intro x25 hm
        refine LW.pick_t wn rfl (bk rfl hb23) rfl ?_
        refine LW.nil ?_
        obtain rfl := Option.some.inj hm
        refine EW.sub (G := [(0, .slice oa1 a0.length c2), (2, .int .i64 a2), (9, .int .i64 x16), (30, .bool x25)]) ⟨rfl, rfl, rfl, rfl, trivial⟩ ?_
        exact EW.join_n ⟨_, rfl, cx, s3, trivial⟩
      · replace hm := cond_f hm hb23
        refine LW.skip 24 rfl (bk rfl hb23) rfl rfl ?_
        refine LW.skip 24 rfl (bk rfl hb23) rfl rfl ?_
        refine LW.skip 24 rfl (bk rfl hb23) rfl rfl ?_
        refine LW.skip 24 rfl (bk rfl hb23) rfl rfl ?_
        refine LW.skip 24 rfl (bk rfl hb23) rfl rfl ?_
        refine LW.pick_f wn rfl (bk rfl hb23) rfl ?_
        refine LW.nil ?_
        obtain rfl := Option.some.inj hm
        refine EW.sub (G := [(0, .slice oa1 a0.length c2), (2, .int .i64 a2), (9, .int .i64 x16), (30, .bool false)]) ⟨rfl, rfl, rfl, rfl, trivial⟩ ?_
        exact EW.join_n ⟨_, rfl, cx, s3, trivial⟩
    · rintro _ w19 ⟨lab20, rfl, cx, s3, _⟩
      have hm := hm_; clear hm_
      refine EW.seq_n ?_
      refine CW.cond (b := y17) rfl (fun hb26 => ?_) (fun hb26 => ?_)
      · replace hm := cond_t hm hb26
        refine CW.seq ?_
        refine CW.region ?_
        refine LW.assign wn rfl rfl ?_
        refine LW.assign wn rfl rfl ?_
        refine LW.assign wn rfl rfl ?_
        refine LW.nil ?_
        refine EW.seq_n ?_
        refine CW.ret ?_
        refine EW.seq_r ?_
        obtain rfl := Option.some.inj hm
        exact EW.rets (vs := [.slice none 0 0, .bool false, .int .i64 10]) rfl ⟨rfl, rfl, rfl, trivial⟩ rfl ⟨none, 0, rfl, (cx.ste t), SL.nil, trivial⟩
      · replace hm := cond_f hm hb26
        refine CW.skip ?_
        refine EW.seq_n ?_
        refine CW.seq ?_
        refine CW.region ?_
        refine LW.move wn rfl rfl ?_
        refine LW.len kUnd_24 wn rfl rfl ?_
        refine LW.move wn rfl rfl ?_
        refine LW.move wn rfl rfl ?_
        obtain ⟨y27, h31, hm_⟩ := bnd_some hm; clear hm; have hm := hm_; clear hm_
        refine LW.call kFn_35 (c_coresecref18_length h31 cx.top) wn rfl rfl ?_
        rintro _ w28 ⟨rfl, e29, _⟩; refine ⟨_, rfl, ?_⟩
        replace cx := cx.step e29 rfl
        replace s3 := s3.step e29
        clear e29
        refine LW.add hm wn rfl rfl rfl ?_; clear hm; intro x32 hm
        refine LW.min2 hm wn rfl rfl rfl ?_; clear hm; intro x33 hm
        refine LW.assign wn rfl rfl ?_
        refine LW.nil ?_
        refine EW.seq_n ?_
        refine CW.seq ?_
        refine CW.region ?_
        refine LW.move wn rfl rfl ?_
        refine LW.move wn rfl rfl ?_
        refine LW.move wn rfl rfl ?_
        refine LW.slice_lh hm s3 kSl_24 wn rfl rfl rfl rfl ?_; clear hm; intro x34 oa35 c36 hm s37
        refine LW.append (ρ := Rep.u8) (xs := ([] : List UInt8)) (ys := x34) hm (Own.nil (k := 16)) (SL.flat' (lab := _) (c := c36) s37) cx.top rfl kSl_24 rfl wn rfl rfl rfl ?_; clear hm; intro x38 oa39 c40 lab41 w42 hm e43 o44
        replace cx := cx.step e43 rfl
        replace s3 := s3.step e43
        replace s37 := s37.step e43
        clear e43
        refine LW.move wn rfl rfl ?_
        refine LW.move wn rfl rfl ?_
        refine LW.len kUnd_24 wn rfl rfl ?_
        refine LW.lss hm wn rfl rfl rfl ?_; clear hm; intro x45 hm
        refine LW.assign wn rfl rfl ?_
        refine LW.assign wn rfl rfl ?_
        refine LW.assign wn rfl rfl ?_
        refine LW.nil ?_
        refine EW.seq_n ?_
        refine CW.ret ?_
        obtain rfl := Option.some.inj hm
        exact EW.rets (vs := [.slice oa39 x38.length c40, .bool x45, .int .i64 0]) rfl ⟨rfl, rfl, rfl, trivial⟩ rfl ⟨oa39, c40, rfl, (cx.ste t), (o44.sl (cx.keeps t) (cx.own0 t rfl)), trivial⟩
set_option linter.unusedVariables false in
def m_coresecref18_Blocks (a0 : Int) (a1 : Int) : Option (Int) :=
  bnd (letm (decide (a0 < 0)) fun x5 =>
  (cond x5 (some (true))
   (letm (decide (1073741824 < a0)) fun x8 =>
  (cond x8 (some (true))
   (letm (decide (a1 < 0)) fun x11 =>
  (cond x11 (some (true))
   (letm (decide (6 < a1)) fun x14 =>
  some (x14))))))) : Option (Bool)) fun y1 =>
  (cond y1 (some 0)
   (bnd (m_coresecref18_length a1) fun y16 =>
  letm (w64 (a0 + y16)) fun x21 =>
  letm (w64 (x21 - 1)) fun x22 =>
  bnd (m_coresecref18_length a1) fun y23 =>
  bnd (Gk.quo x22 y23) fun x28 =>
  letm (max 1 x28) fun x29 =>
  some x29))
set_option maxRecDepth 100000 in
set_option maxHeartbeats 2000000 in
theorem c_coresecref18_Blocks {lab : Lab} {w : World} {a0 : Int} {a1 : Int} {r : Int} (hm : m_coresecref18_Blocks a0 a1 = some r) (t : Top lab w) : Calls Try.prog 24 [.int .i64 a0, .int .i64 a1].toArray w (fun e w' => e = .returned (.int .i64 r) ∧ Ste lab 0 w lab w' ∧ True) := by
  refine enter Try.func24 rfl 28 rfl rfl ?_
  have cx := Cx.start t
  refine CW.sub (G := [(0, .int .i64 a0), (1, .int .i64 a1)]) ⟨rfl, rfl, trivial⟩ ?_
  unfold m_coresecref18_Blocks at hm
  refine CW.seq ?_
  refine CW.region ?_
  refine LW.assign wn rfl rfl ?_
  refine LW.nil ?_
  refine EW.seq_n ?_
  refine CW.seq ?_
  refine CW.seq ?_
  obtain ⟨y1, h2, hm_⟩ := bnd_some hm; clear hm
  refine CW.join_any (fun F_ w3 => ∃ (lab4 : Lab) , F_ = [(0, .int .i64 a0), (1, .int .i64 a1), (18, .bool y1)] ∧ Cx [] w lab w3 lab4 ∧ True) ?_ ?_
  · have hm := h2; clear h2
    refine CW.region ?_
    refine LW.move wn rfl rfl ?_
    refine LW.lss hm wn rfl rfl rfl ?_; clear hm; intro x5 hm
    refine LW.move wn rfl rfl ?_
    rcases Bool.eq_false_or_eq_true x5 with hb7 | hb7
    · replace hm := cond_t hm hb7
      refine LW.skip 7 rfl (bk rfl hb7) rfl rfl ?_
      refine LW.skip 7 rfl (bk rfl hb7) rfl rfl ?_
      refine LW.pick_t wn rfl (bk rfl hb7) rfl ?_
      refine LW.move wn rfl rfl ?_
      refine LW.skip 11 rfl rfl rfl rfl ?_
      refine LW.skip 11 rfl rfl rfl rfl ?_
      refine LW.pick_t wn rfl rfl rfl ?_
      refine LW.move wn rfl rfl ?_
      refine LW.skip 15 rfl rfl rfl rfl ?_
      refine LW.skip 15 rfl rfl rfl rfl ?_
      refine LW.pick_t wn rfl rfl rfl ?_
      refine LW.nil ?_
      obtain rfl := Option.some.inj hm
      refine EW.sub (G := [(0, .int .i64 a0), (1, .int .i64 a1), (18, .bool true)]) ⟨rfl, rfl, rfl, trivial⟩ ?_
      exact EW.join_n ⟨_, rfl, cx, trivial⟩
    · replace hm := cond_f hm hb7
      refine LW.move (ws 7 rfl (bk rfl hb7)) rfl rfl ?_
      refine LW.gtr hm (ws 7 rfl (bk rfl hb7)) rfl rfl rfl ?_; clear hm; intro x8 hm
      refine LW.pick_f wn rfl (bk rfl hb7) rfl ?_
      refine LW.move wn rfl rfl ?_
      rcases Bool.eq_false_or_eq_true x8 with hb10 | hb10
      · replace hm := cond_t hm hb10
        refine LW.skip 11 rfl (bk rfl hb10) rfl rfl ?_
        refine LW.skip 11 rfl (bk rfl hb10) rfl rfl ?_
        refine LW.pick_t wn rfl (bk rfl hb10) rfl ?_
        refine LW.move wn rfl rfl ?_
        refine LW.skip 15 rfl rfl rfl rfl ?_
        refine LW.skip 15 rfl rfl rfl rfl ?_
        refine LW.pick_t wn rfl rfl rfl ?_
        refine LW.nil ?_
        obtain rfl := Option.some.inj hm
        refine EW.sub (G := [(0, .int .i64 a0), (1, .int .i64 a1), (18, .bool true)]) ⟨rfl, rfl, rfl, trivial⟩ ?_
        exact EW.join_n ⟨_, rfl, cx, trivial⟩
      · replace hm := cond_f hm hb10
        refine LW.move (ws 11 rfl (bk rfl hb10)) rfl rfl ?_
        refine LW.lss hm (ws 11 rfl (bk rfl hb10)) rfl rfl rfl ?_; clear hm; intro x11 hm
        refine LW.pick_f wn rfl (bk rfl hb10) rfl ?_
        refine LW.move wn rfl rfl ?_
        rcases Bool.eq_false_or_eq_true x11 with hb13 | hb13
        · replace hm := cond_t hm hb13
          refine LW.skip 15 rfl (bk rfl hb13) rfl rfl ?_
          refine LW.skip 15 rfl (bk rfl hb13) rfl rfl ?_
          refine LW.pick_t wn rfl (bk rfl hb13) rfl ?_
          refine LW.nil ?_
          obtain rfl := Option.some.inj hm
          refine EW.sub (G := [(0, .int .i64 a0), (1, .int .i64 a1), (18, .bool true)]) ⟨rfl, rfl, rfl, trivial⟩ ?_
          exact EW.join_n ⟨_, rfl, cx, trivial⟩
        · replace hm := cond_f hm hb13
          refine LW.move (ws 15 rfl (bk rfl hb13)) rfl rfl ?_
          refine LW.gtr hm (ws 15 rfl (bk rfl hb13)) rfl rfl rfl ?_; clear hm; intro x14 hm
          refine LW.pick_f wn rfl (bk rfl hb13) rfl ?_
          refine LW.nil ?_
          obtain rfl := Option.some.inj hm
          refine EW.sub (G := [(0, .int .i64 a0), (1, .int .i64 a1), (18, .bool x14)]) ⟨rfl, rfl, rfl, trivial⟩ ?_
          exact EW.join_n ⟨_, rfl, cx, trivial⟩
  · rintro _ w3 ⟨lab4, rfl, cx, _⟩
    have hm := hm_; clear hm_
    refine EW.seq_n ?_
    refine CW.cond (b := y1) rfl (fun hb15 => ?_) (fun hb15 => ?_)
    · replace hm := cond_t hm hb15
      refine CW.seq ?_
      refine CW.region ?_
      refine LW.assign wn rfl rfl ?_
      refine LW.nil ?_
      refine EW.seq_n ?_
      refine CW.ret ?_
      refine EW.seq_r ?_
      obtain rfl := Option.some.inj hm
      exact EW.ret1 rfl rfl ⟨rfl, (cx.ste t), trivial⟩
    · replace hm := cond_f hm hb15
      refine CW.skip ?_
      refine EW.seq_n ?_
      refine CW.seq ?_
      refine CW.region ?_
      refine LW.move wn rfl rfl ?_
      refine LW.move wn rfl rfl ?_
      obtain ⟨y16, h20, hm_⟩ := bnd_some hm; clear hm; have hm := hm_; clear hm_
      refine LW.call kFn_35 (c_coresecref18_length h20 cx.top) wn rfl rfl ?_
      rintro _ w17 ⟨rfl, e18, _⟩; refine ⟨_, rfl, ?_⟩
      replace cx := cx.step e18 rfl
      clear e18
      refine LW.add hm wn rfl rfl rfl ?_; clear hm; intro x21 hm
      refine LW.sub' hm wn rfl rfl rfl ?_; clear hm; intro x22 hm
      refine LW.move wn rfl rfl ?_
      obtain ⟨y23, h27, hm_⟩ := bnd_some hm; clear hm; have hm := hm_; clear hm_
      refine LW.call kFn_35 (c_coresecref18_length h27 cx.top) wn rfl rfl ?_
      rintro _ w24 ⟨rfl, e25, _⟩; refine ⟨_, rfl, ?_⟩
      replace cx := cx.step e25 rfl
      clear e25
      refine LW.quo hm wn rfl rfl rfl ?_; clear hm; intro x28 hm
      refine LW.max2 hm wn rfl rfl rfl ?_; clear hm; intro x29 hm
      refine LW.assign wn rfl rfl ?_
      refine LW.nil ?_
      refine EW.seq_n ?_
      refine CW.ret ?_
      obtain rfl := Option.some.inj hm
      exact EW.ret1 rfl rfl ⟨rfl, (cx.ste t), trivial⟩
set_option linter.unusedVariables false in
def m_coresecref18_Value (a0 : S_api_Block) : Option ((List UInt8) × Int) :=
  bnd (m_coresecref18_valid (S_api_Block.mk a0.Num a0.More a0.Size)) fun y6 =>
  letm (!y6) fun x11 =>
  (cond x11 (some ([], 1))
   (letm (w64 (16 * a0.Num)) fun x13 =>
  letm (w64 (x13 + a0.Size)) fun x14 =>
  bnd ((cond a0.More (letm (w64 (x14 + 8)) fun x20 =>
  some (x20))
   (some (x14))) : Option (Int)) fun y15 =>
  bnd (m_coresecref16_FromUint y15) fun y21 =>
  some (y21, 0)))
set_option maxRecDepth 100000 in
set_option maxHeartbeats 2000000 in
theorem c_coresecref18_Value {lab : Lab} {w : World} {a0 : S_api_Block} {r : (List UInt8) × Int} (hm : m_coresecref18_Value a0 = some r) (t : Top lab w) : Calls Try.prog 26 [.agg ([.int .i64 a0.Num, .bool a0.More, .int .i64 a0.Size] : List Value).toArray].toArray w (fun e w' => ∃ (oa0_0 : Option Addr) (c0_0 : Nat), e = .returned (.tuple [.slice oa0_0 r.1.length c0_0, .int .i64 r.2].toArray) ∧ Ste lab 0 w lab w' ∧ SL Rep.u8 lab w' oa0_0 c0_0 r.1 ∧ True) := by
  refine enter Try.func26 rfl 20 rfl rfl ?_
  have cx := Cx.start t
  refine CW.sub (G := [(0, .agg ([.int .i64 a0.Num, .bool a0.More, .int .i64 a0.Size] : List Value).toArray)]) ⟨rfl, trivial⟩ ?_
  unfold m_coresecref18_Value at hm
  refine CW.seq ?_
  refine CW.region ?_
  refine LW.box 11 [.int .i64 a0.Num, .bool a0.More, .int .i64 a0.Size] rfl rfl cx.top wn rfl ?_
  intro g1 lab2 w3 e4 b5
  replace cx := cx.step e4 rfl
  clear e4
  refine LW.assign wn rfl rfl ?_
  refine LW.assign wn rfl rfl ?_
  refine LW.nil ?_
  refine EW.seq_n ?_
  refine CW.seq ?_
  refine CW.seq ?_
  refine CW.region ?_
  refine LW.loadBn [.int .i64 a0.Num, .bool a0.More, .int .i64 a0.Size] b5 kAgg_26 rfl rfl wn rfl rfl ?_
  obtain ⟨y6, h10, hm_⟩ := bnd_some hm; clear hm; have hm := hm_; clear hm_
  refine LW.call kFn_34 (c_coresecref18_valid h10 cx.top) wn rfl rfl ?_
  rintro _ w7 ⟨rfl, e8, _⟩; refine ⟨_, rfl, ?_⟩
  replace cx := cx.step e8 rfl
  replace b5 := b5.step e8 rfl
  clear e8
  refine LW.not hm wn rfl rfl ?_; clear hm; intro x11 hm
  refine LW.nil ?_
  refine EW.seq_n ?_
  refine CW.cond (b := x11) rfl (fun hb12 => ?_) (fun hb12 => ?_)
  · replace hm := cond_t hm hb12
    refine CW.seq ?_
    refine CW.region ?_
    refine LW.assign wn rfl rfl ?_
    refine LW.assign wn rfl rfl ?_
    refine LW.nil ?_
    refine EW.seq_n ?_
    refine CW.ret ?_
    refine EW.seq_r ?_
    obtain rfl := Option.some.inj hm
    exact EW.rets (vs := [.slice none 0 0, .int .i64 1]) rfl ⟨rfl, rfl, trivial⟩ rfl ⟨none, 0, rfl, (cx.ste t), SL.nil, trivial⟩
  · replace hm := cond_f hm hb12
    refine CW.skip ?_
    refine EW.seq_n ?_
    refine CW.seq ?_
    refine CW.region ?_
    refine LW.fldB 0 kFld_26_0 rfl wn rfl rfl ?_
    refine LW.loadB1 b5 kOne_3 rfl wn rfl rfl ?_
    refine LW.mul hm wn rfl rfl rfl ?_; clear hm; intro x13 hm
    refine LW.fldB 2 kFld_26_2 rfl wn rfl rfl ?_
    refine LW.loadB1 b5 kOne_3 rfl wn rfl rfl ?_
    refine LW.add hm wn rfl rfl rfl ?_; clear hm; intro x14 hm
    refine LW.assign wn rfl rfl ?_
    refine LW.nil ?_
    refine EW.seq_n ?_
    refine CW.seq ?_
    refine CW.seq ?_
    refine CW.region ?_
    refine LW.fldB 1 kFld_26_1 rfl wn rfl rfl ?_
    refine LW.loadB1 b5 kOne_4 rfl wn rfl rfl ?_
    refine LW.nil ?_
    refine EW.seq_n ?_
    obtain ⟨y15, h16, hm_⟩ := bnd_some hm; clear hm
    refine CW.join_any (fun F_ w17 => ∃ (lab18 : Lab) , F_ = [(4, .int .i64 y15)] ∧ Cx [] w lab w17 lab18 ∧ True) ?_ ?_
    · have hm := h16; clear h16
      refine CW.cond (b := a0.More) rfl (fun hb19 => ?_) (fun hb19 => ?_)
      · replace hm := cond_t hm hb19
        refine CW.region ?_
        refine LW.move wn rfl rfl ?_
        refine LW.add hm wn rfl rfl rfl ?_; clear hm; intro x20 hm
        refine LW.assign wn rfl rfl ?_
        refine LW.nil ?_
        obtain rfl := Option.some.inj hm
        refine EW.sub (G := [(4, .int .i64 x20)]) ⟨rfl, trivial⟩ ?_
        exact EW.join_n ⟨_, rfl, cx, trivial⟩
      · replace hm := cond_f hm hb19
        refine CW.skip ?_
        obtain rfl := Option.some.inj hm
        refine EW.sub (G := [(4, .int .i64 x14)]) ⟨rfl, trivial⟩ ?_
        exact EW.join_n ⟨_, rfl, cx, trivial⟩
    · rintro _ w17 ⟨lab18, rfl, cx, _⟩
      have hm := hm_; clear hm_
      refine EW.seq_n ?_
      refine CW.seq ?_
      refine CW.region ?_
      refine LW.move wn rfl rfl ?_
      obtain ⟨y21, h25, hm_⟩ := bnd_some hm; clear hm; have hm := hm_; clear hm_
      refine LW.call kFn_37 (c_coresecref16_FromUint h25 cx.top) wn rfl rfl ?_
      rintro _ w22 ⟨oa26, c27, rfl, e23, s28, _⟩; refine ⟨_, rfl, ?_⟩
      replace cx := cx.step e23 rfl
      clear e23
      refine LW.assign wn rfl rfl ?_
      refine LW.assign wn rfl rfl ?_
      refine LW.nil ?_
      refine EW.seq_n ?_
      refine CW.ret ?_
      obtain rfl := Option.some.inj hm
      exact EW.rets (vs := [.slice oa26 y21.length c27, .int .i64 0]) rfl ⟨rfl, rfl, trivial⟩ rfl ⟨oa26, c27, rfl, (cx.ste t), (s28.keep (cx.keeps t)), trivial⟩
set_option linter.unusedVariables false in
def m_coresecref18_Parse (a0 : List UInt8) : Option (S_api_Block × Int) :=
  letm (decide (3 < (a0.length : Int))) fun x9 =>
  (cond x9 (some ((S_api_Block.mk 0 false 0), 4))
   (bnd (m_coresecref16_Uint a0) fun y14 =>
  bnd (Gk.rem y14.1 8) fun x19 =>
  letm (x19 == 7) fun x20 =>
  (cond x20 (some ((S_api_Block.mk 0 false 0), 4))
   (bnd (Gk.quo y14.1 16) fun x25 =>
  bnd (Gk.quo y14.1 8) fun x26 =>
  bnd (Gk.rem x26 2) fun x27 =>
  letm (x27 == 1) fun x28 =>
  bnd (Gk.rem y14.1 8) fun x29 =>
  some ((S_api_Block.mk x25 x28 x29), 0)))))
set_option maxRecDepth 100000 in
set_option maxHeartbeats 2000000 in
theorem c_coresecref18_Parse {lab : Lab} {w : World} {a0 : List UInt8} {r : S_api_Block × Int} (hm : m_coresecref18_Parse a0 = some r) (t : Top lab w) {oa1 : Option Addr} {c2 : Nat} (s3 : SL Rep.u8 lab w oa1 c2 a0) : Calls Try.prog 28 [.slice oa1 a0.length c2].toArray w (fun e w' => e = .returned (.tuple [.agg [.int .i64 r.1.Num, .bool r.1.More, .int .i64 r.1.Size].toArray, .int .i64 r.2].toArray) ∧ Ste lab 0 w lab w' ∧ True) := by
  refine enter Try.func28 rfl 28 rfl rfl ?_
  have cx := Cx.start t
  replace s3 := s3.keep Keeps.lin
  refine CW.sub (G := [(0, .slice oa1 a0.length c2)]) ⟨rfl, trivial⟩ ?_
  unfold m_coresecref18_Parse at hm
  refine CW.seq ?_
  refine CW.region ?_
  refine LW.alloc 12 [.int .i64 0, .bool false, .int .i64 0] kZero_26 rfl cx.top wn rfl ?_
  intro g4 lab5 w6 e7 b8
  replace cx := cx.step e7 rfl
  replace s3 := s3.step e7
  clear e7
  refine LW.assign wn rfl rfl ?_
  refine LW.nil ?_
  refine EW.seq_n ?_
  refine CW.seq ?_
  refine CW.seq ?_
  refine CW.region ?_
  refine LW.move wn rfl rfl ?_
  refine LW.len kUnd_24 wn rfl rfl ?_
  refine LW.gtr hm wn rfl rfl rfl ?_; clear hm; intro x9 hm
  refine LW.nil ?_
  refine EW.seq_n ?_
  refine CW.cond (b := x9) rfl (fun hb10 => ?_) (fun hb10 => ?_)
  · replace hm := cond_t hm hb10
    refine CW.seq ?_
    refine CW.region ?_
    refine LW.build (vs := []) (cs := [.int .i64 0, .bool false, .int .i64 0]) rfl ((kBuilt_26 _).trans rfl) wn rfl ?_
    refine LW.storeBn [.int .i64 0, .bool false, .int .i64 0] [.int .i64 0, .bool false, .int .i64 0] b8 cx.top rfl kAgg_26 rfl rfl rfl rfl wn rfl rfl ?_
    intro w11 e12 b13; clear b8
    replace cx := cx.step e12 rfl
    replace s3 := s3.step e12
    clear e12
    refine LW.assign wn rfl rfl ?_
    refine LW.nil ?_
    refine EW.seq_n ?_
    refine CW.ret ?_
    refine EW.seq_r ?_
    obtain rfl := Option.some.inj hm
    exact EW.rets (vs := [.agg ([.int .i64 0, .bool false, .int .i64 0] : List Value).toArray, .int .i64 4]) rfl ⟨(Box.rv b13 kAgg_26 rfl rfl), rfl, trivial⟩ rfl ⟨rfl, (cx.ste t), trivial⟩
  · replace hm := cond_f hm hb10
    refine CW.skip ?_
    refine EW.seq_n ?_
    refine CW.seq ?_
    refine CW.region ?_
    refine LW.move wn rfl rfl ?_
    obtain ⟨y14, h18, hm_⟩ := bnd_some hm; clear hm; have hm := hm_; clear hm_
    refine LW.call kFn_39 (c_coresecref16_Uint h18 cx.top s3) wn rfl rfl ?_
    rintro _ w15 ⟨rfl, e16, _⟩; refine ⟨_, rfl, ?_⟩
    replace cx := cx.step e16 rfl
    replace s3 := s3.step e16
    replace b8 := b8.step e16 rfl
    clear e16
    refine LW.move wn rfl rfl ?_
    refine LW.extract wn rfl rfl rfl ?_
    refine LW.extract wn rfl rfl rfl ?_
    refine LW.assign wn rfl rfl ?_
    refine LW.assign wn rfl rfl ?_
    refine LW.nil ?_
    refine EW.seq_n ?_
    refine CW.seq ?_
    refine CW.seq ?_
    refine CW.region ?_
    refine LW.move wn rfl rfl ?_
    refine LW.rem hm wn rfl rfl rfl ?_; clear hm; intro x19 hm
    refine LW.eql hm wn rfl rfl rfl ?_; clear hm; intro x20 hm
    refine LW.nil ?_
    refine EW.seq_n ?_
    refine CW.cond (b := x20) rfl (fun hb21 => ?_) (fun hb21 => ?_)
    · replace hm := cond_t hm hb21
      refine CW.seq ?_
      refine CW.region ?_
      refine LW.build (vs := []) (cs := [.int .i64 0, .bool false, .int .i64 0]) rfl ((kBuilt_26 _).trans rfl) wn rfl ?_
      refine LW.storeBn [.int .i64 0, .bool false, .int .i64 0] [.int .i64 0, .bool false, .int .i64 0] b8 cx.top rfl kAgg_26 rfl rfl rfl rfl wn rfl rfl ?_
      intro w22 e23 b24; clear b8
      replace cx := cx.step e23 rfl
      clear e23
      refine LW.assign wn rfl rfl ?_
      refine LW.nil ?_
      refine EW.seq_n ?_
      refine CW.ret ?_
      refine EW.seq_r ?_
      obtain rfl := Option.some.inj hm
      exact EW.rets (vs := [.agg ([.int .i64 0, .bool false, .int .i64 0] : List Value).toArray, .int .i64 4]) rfl ⟨(Box.rv b24 kAgg_26 rfl rfl), rfl, trivial⟩ rfl ⟨rfl, (cx.ste t), trivial⟩
    · replace hm := cond_f hm hb21
      refine CW.skip ?_
      refine EW.seq_n ?_
      refine CW.seq ?_
      refine CW.region ?_
      refine LW.move wn rfl rfl ?_
      refine LW.quo hm wn rfl rfl rfl ?_; clear hm; intro x25 hm
      refine LW.move wn rfl rfl ?_
      refine LW.quo hm wn rfl rfl rfl ?_; clear hm; intro x26 hm
      refine LW.rem hm wn rfl rfl rfl ?_; clear hm; intro x27 hm
      refine LW.eql hm wn rfl rfl rfl ?_; clear hm; intro x28 hm
      refine LW.move wn rfl rfl ?_
      refine LW.rem hm wn rfl rfl rfl ?_; clear hm; intro x29 hm
      refine LW.build (vs := [(0, .int .i64 x25), (1, .bool x28), (2, .int .i64 x29)]) (cs := [.int .i64 x25, .bool x28, .int .i64 x29]) rfl ((kBuilt_26 _).trans rfl) wn rfl ?_
      refine LW.storeBn [.int .i64 x25, .bool x28, .int .i64 x29] [.int .i64 x25, .bool x28, .int .i64 x29] b8 cx.top rfl kAgg_26 rfl rfl rfl rfl wn rfl rfl ?_
      intro w30 e31 b32; clear b8
      replace cx := cx.step e31 rfl
      clear e31
      refine LW.assign wn rfl rfl ?_
      refine LW.nil ?_
      refine EW.seq_n ?_
      refine CW.ret ?_
      obtain rfl := Option.some.inj hm
      exact EW.rets (vs := [.agg ([.int .i64 x25, .bool x28, .int .i64 x29] : List Value).toArray, .int .i64 0]) rfl ⟨(Box.rv b32 kAgg_26 rfl rfl), rfl, trivial⟩ rfl ⟨rfl, (cx.ste t), trivial⟩
end Go.Proofs.Ytaefnnamjphieaa
