/-
  Package block: models of its functions, and that the functions compute them. No condition but that the model has a value.
-/
import Derived.Test.YtaefnnamjphieaaPBytes
namespace Go.Proofs.Ytaefnnamjphieaa
open Go.Gk Go.RowKit
set_option linter.unusedVariables false in
def m_block_sound (a0 : S_api_Block) : Option (Bool) :=
  bnd (letm (decide (0 ≤ a0.Num)) fun x10 =>
  (cond x10 (letm (decide (a0.Num ≤ 1048575)) fun x13 =>
  (cond x13 (letm (decide (0 ≤ a0.Size)) fun x16 =>
  (cond x16 (letm (decide (a0.Size ≤ 6)) fun x19 =>
  some (x19))
   (some (false))))
   (some (false))))
   (some (false))) : Option (Bool)) fun y6 =>
  some y6
set_option maxRecDepth 100000 in
set_option maxHeartbeats 2000000 in
theorem c_block_sound {lab : Lab} {w : World} {a0 : S_api_Block} {r : Bool} (hm : m_block_sound a0 = some r) (t : Top lab w) : Calls Try.prog 30 [.agg ([.int .i64 a0.Num, .bool a0.More, .int .i64 a0.Size] : List Value).toArray].toArray w (fun e w' => e = .returned (.bool r) ∧ Ste lab 0 w lab w' ∧ True) := by
  refine enter Try.func30 rfl 21 rfl rfl ?_
  have cx := Cx.start t
  refine CW.sub (G := [(0, .agg ([.int .i64 a0.Num, .bool a0.More, .int .i64 a0.Size] : List Value).toArray)]) ⟨rfl, trivial⟩ ?_
  unfold m_block_sound at hm
  refine CW.seq ?_
  refine CW.region ?_
  refine LW.box 11 [.int .i64 a0.Num, .bool a0.More, .int .i64 a0.Size] rfl rfl cx.top wn rfl ?_
  intro g1 lab2 w3 e4 b5
  replace cx := cx.step e4 rfl
  clear e4
  refine LW.assign wn rfl rfl ?_
  refine LW.nil ?_
  refine EW.seq_n ?_
  refine CW.seq ?_
  obtain ⟨y6, h7, hm_⟩ := bnd_some hm; clear hm
  refine CW.join_any (fun F_ w8 => ∃ (lab9 : Lab) , F_ = [(2, .bool y6)] ∧ Cx [] w lab w8 lab9 ∧ True) ?_ ?_
  · have hm := h7; clear h7
    refine CW.region ?_
    refine LW.fldB 0 kFld_26_0 rfl wn rfl rfl ?_
    refine LW.loadB1 b5 kOne_3 rfl wn rfl rfl ?_
    refine LW.geq hm wn rfl rfl rfl ?_; clear hm; intro x10 hm
    refine LW.move wn rfl rfl ?_
    rcases Bool.eq_false_or_eq_true x10 with hb12 | hb12
    · replace hm := cond_t hm hb12
      refine LW.fldB 0 kFld_26_0 rfl (ws 6 rfl (bk rfl hb12)) rfl rfl ?_
      refine LW.loadB1 b5 kOne_3 rfl (ws 6 rfl (bk rfl hb12)) rfl rfl ?_
      refine LW.leq hm (ws 6 rfl (bk rfl hb12)) rfl rfl rfl ?_; clear hm; intro x13 hm
      refine LW.pick_t wn rfl (bk rfl hb12) rfl ?_
      refine LW.move wn rfl rfl ?_
      rcases Bool.eq_false_or_eq_true x13 with hb15 | hb15
      · replace hm := cond_t hm hb15
        refine LW.fldB 2 kFld_26_2 rfl (ws 11 rfl (bk rfl hb15)) rfl rfl ?_
        refine LW.loadB1 b5 kOne_3 rfl (ws 11 rfl (bk rfl hb15)) rfl rfl ?_
        refine LW.geq hm (ws 11 rfl (bk rfl hb15)) rfl rfl rfl ?_; clear hm; intro x16 hm
        refine LW.pick_t wn rfl (bk rfl hb15) rfl ?_
        refine LW.move wn rfl rfl ?_
        rcases Bool.eq_false_or_eq_true x16 with hb18 | hb18
        · replace hm := cond_t hm hb18
          refine LW.fldB 2 kFld_26_2 rfl (ws 16 rfl (bk rfl hb18)) rfl rfl ?_
          refine LW.loadB1 b5 kOne_3 rfl (ws 16 rfl (bk rfl hb18)) rfl rfl ?_
          refine LW.leq hm (ws 16 rfl (bk rfl hb18)) rfl rfl rfl ?_; clear hm; intro x19 hm
          refine LW.pick_t wn rfl (bk rfl hb18) rfl ?_
          refine LW.assign wn rfl rfl ?_
          refine LW.nil ?_
          obtain rfl := Option.some.inj hm
          refine EW.sub (G := [(2, .bool x19)]) ⟨rfl, trivial⟩ ?_
          exact EW.join_n ⟨_, rfl, cx, trivial⟩
        · replace hm := cond_f hm hb18
          refine LW.skip 16 rfl (bk rfl hb18) rfl rfl ?_
          refine LW.skip 16 rfl (bk rfl hb18) rfl rfl ?_
          refine LW.skip 16 rfl (bk rfl hb18) rfl rfl ?_
          refine LW.pick_f wn rfl (bk rfl hb18) rfl ?_
          refine LW.assign wn rfl rfl ?_
          refine LW.nil ?_
          obtain rfl := Option.some.inj hm
          refine EW.sub (G := [(2, .bool false)]) ⟨rfl, trivial⟩ ?_
          exact EW.join_n ⟨_, rfl, cx, trivial⟩
      · replace hm := cond_f hm hb15
        refine LW.skip 11 rfl (bk rfl hb15) rfl rfl ?_
        refine LW.skip 11 rfl (bk rfl hb15) rfl rfl ?_
        refine LW.skip 11 rfl (bk rfl hb15) rfl rfl ?_
        refine LW.pick_f wn rfl (bk rfl hb15) rfl ?_
        refine LW.move wn rfl rfl ?_
        refine LW.skip 16 rfl rfl rfl rfl ?_
        refine LW.skip 16 rfl rfl rfl rfl ?_
        refine LW.skip 16 rfl rfl rfl rfl ?_
        refine LW.pick_f wn rfl rfl rfl ?_
        refine LW.assign wn rfl rfl ?_
        refine LW.nil ?_
        obtain rfl := Option.some.inj hm
        refine EW.sub (G := [(2, .bool false)]) ⟨rfl, trivial⟩ ?_
        exact EW.join_n ⟨_, rfl, cx, trivial⟩
    · replace hm := cond_f hm hb12
      refine LW.skip 6 rfl (bk rfl hb12) rfl rfl ?_
      refine LW.skip 6 rfl (bk rfl hb12) rfl rfl ?_
      refine LW.skip 6 rfl (bk rfl hb12) rfl rfl ?_
      refine LW.pick_f wn rfl (bk rfl hb12) rfl ?_
      refine LW.move wn rfl rfl ?_
      refine LW.skip 11 rfl rfl rfl rfl ?_
      refine LW.skip 11 rfl rfl rfl rfl ?_
      refine LW.skip 11 rfl rfl rfl rfl ?_
      refine LW.pick_f wn rfl rfl rfl ?_
      refine LW.move wn rfl rfl ?_
      refine LW.skip 16 rfl rfl rfl rfl ?_
      refine LW.skip 16 rfl rfl rfl rfl ?_
      refine LW.skip 16 rfl rfl rfl rfl ?_
      refine LW.pick_f wn rfl rfl rfl ?_
      refine LW.assign wn rfl rfl ?_
      refine LW.nil ?_
      obtain rfl := Option.some.inj hm
      refine EW.sub (G := [(2, .bool false)]) ⟨rfl, trivial⟩ ?_
      exact EW.join_n ⟨_, rfl, cx, trivial⟩
  · rintro _ w8 ⟨lab9, rfl, cx, _⟩
    have hm := hm_; clear hm_
    refine EW.seq_n ?_
    refine CW.ret ?_
    obtain rfl := Option.some.inj hm
    exact EW.ret1 rfl rfl ⟨rfl, (cx.ste t), trivial⟩
set_option linter.unusedVariables false in
def m_block_Value (a0 : S_api_Block) : Option ((List UInt8) × Int) :=
  bnd (m_block_sound (S_api_Block.mk a0.Num a0.More a0.Size)) fun y6 =>
  letm (!y6) fun x11 =>
  (cond x11 (some ([], 1))
   (bnd (Gk.shl a0.Num ((4 : UInt64).toNat : Int)) fun x13 =>
  letm (ibit .or x13 a0.Size) fun x14 =>
  bnd ((cond a0.More (letm (ibit .or x14 8) fun x20 =>
  some (x20))
   (some (x14))) : Option (Int)) fun y15 =>
  bnd (m_option_FromUint y15) fun y21 =>
  some (y21, 0)))
set_option maxRecDepth 100000 in
set_option maxHeartbeats 2000000 in
theorem c_block_Value {lab : Lab} {w : World} {a0 : S_api_Block} {r : (List UInt8) × Int} (hm : m_block_Value a0 = some r) (t : Top lab w) : Calls Try.prog 25 [.agg ([.int .i64 a0.Num, .bool a0.More, .int .i64 a0.Size] : List Value).toArray].toArray w (fun e w' => ∃ (oa0_0 : Option Addr) (c0_0 : Nat), e = .returned (.tuple [.slice oa0_0 r.1.length c0_0, .int .i64 r.2].toArray) ∧ Ste lab 0 w lab w' ∧ SL Rep.u8 lab w' oa0_0 c0_0 r.1 ∧ True) := by
  refine enter Try.func25 rfl 20 rfl rfl ?_
  have cx := Cx.start t
  refine CW.sub (G := [(0, .agg ([.int .i64 a0.Num, .bool a0.More, .int .i64 a0.Size] : List Value).toArray)]) ⟨rfl, trivial⟩ ?_
  unfold m_block_Value at hm
  refine CW.seq ?_
  refine CW.region ?_
  refine LW.box 11 [.int .i64 a0.Num, .bool a0.More, .int .i64 a0.Size] rfl rfl cx.top wn rfl ?_
  intro g1 lab2 w3 e4 b5
  replace cx := cx.step e4 rfl
  clear e4
  refine LW.assign wn rfl rfl ?_
  refine LW.assign wn rfl rfl ?_
  refine LW.nil ?_
  refine EW.seq_n ?_
  refine CW.seq ?_
  refine CW.seq ?_
  refine CW.region ?_
  refine LW.loadBn [.int .i64 a0.Num, .bool a0.More, .int .i64 a0.Size] b5 kAgg_26 rfl rfl wn rfl rfl ?_
  obtain ⟨y6, h10, hm_⟩ := bnd_some hm; clear hm; have hm := hm_; clear hm_
  refine LW.call kFn_30 (c_block_sound h10 cx.top) wn rfl rfl ?_
  rintro _ w7 ⟨rfl, e8, _⟩; refine ⟨_, rfl, ?_⟩
  replace cx := cx.step e8 rfl
  replace b5 := b5.step e8 rfl
  clear e8
  refine LW.not hm wn rfl rfl ?_; clear hm; intro x11 hm
  refine LW.nil ?_
  refine EW.seq_n ?_
  refine CW.cond (b := x11) rfl (fun hb12 => ?_) (fun hb12 => ?_)
  · replace hm := cond_t hm hb12
    refine CW.seq ?_
    refine CW.region ?_
    refine LW.assign wn rfl rfl ?_
    refine LW.assign wn rfl rfl ?_
    refine LW.nil ?_
    refine EW.seq_n ?_
    refine CW.ret ?_
    refine EW.seq_r ?_
    obtain rfl := Option.some.inj hm
    exact EW.rets (vs := [.slice none 0 0, .int .i64 1]) rfl ⟨rfl, rfl, trivial⟩ rfl ⟨none, 0, rfl, (cx.ste t), SL.nil, trivial⟩
  · replace hm := cond_f hm hb12
    refine CW.skip ?_
    refine EW.seq_n ?_
    refine CW.seq ?_
    refine CW.region ?_
    refine LW.fldB 0 kFld_26_0 rfl wn rfl rfl ?_
    refine LW.loadB1 b5 kOne_3 rfl wn rfl rfl ?_
    refine LW.shl hm wn rfl rfl rfl ?_; clear hm; intro x13 hm
    refine LW.fldB 2 kFld_26_2 rfl wn rfl rfl ?_
    refine LW.loadB1 b5 kOne_3 rfl wn rfl rfl ?_
    refine LW.ior hm wn rfl rfl rfl ?_; clear hm; intro x14 hm
    refine LW.assign wn rfl rfl ?_
    refine LW.nil ?_
    refine EW.seq_n ?_
    refine CW.seq ?_
    refine CW.seq ?_
    refine CW.region ?_
    refine LW.fldB 1 kFld_26_1 rfl wn rfl rfl ?_
    refine LW.loadB1 b5 kOne_4 rfl wn rfl rfl ?_
    refine LW.nil ?_
    refine EW.seq_n ?_
    obtain ⟨y15, h16, hm_⟩ := bnd_some hm; clear hm
    refine CW.join_any (fun F_ w17 => ∃ (lab18 : Lab) , F_ = [(4, .int .i64 y15)] ∧ Cx [] w lab w17 lab18 ∧ True) ?_ ?_
    · have hm := h16; clear h16
      refine CW.cond (b := a0.More) rfl (fun hb19 => ?_) (fun hb19 => ?_)
      · replace hm := cond_t hm hb19
        refine CW.region ?_
        refine LW.move wn rfl rfl ?_
        refine LW.ior hm wn rfl rfl rfl ?_; clear hm; intro x20 hm
        refine LW.assign wn rfl rfl ?_
        refine LW.nil ?_
        obtain rfl := Option.some.inj hm
        refine EW.sub (G := [(4, .int .i64 x20)]) ⟨rfl, trivial⟩ ?_
        exact EW.join_n ⟨_, rfl, cx, trivial⟩
      · replace hm := cond_f hm hb19
        refine CW.skip ?_
        obtain rfl := Option.some.inj hm
        refine EW.sub (G := [(4, .int .i64 x14)]) ⟨rfl, trivial⟩ ?_
        exact EW.join_n ⟨_, rfl, cx, trivial⟩
    · rintro _ w17 ⟨lab18, rfl, cx, _⟩
      have hm := hm_; clear hm_
      refine EW.seq_n ?_
      refine CW.seq ?_
      refine CW.region ?_
      refine LW.move wn rfl rfl ?_
      obtain ⟨y21, h25, hm_⟩ := bnd_some hm; clear hm; have hm := hm_; clear hm_
      refine LW.call kFn_36 (c_option_FromUint h25 cx.top) wn rfl rfl ?_
      rintro _ w22 ⟨oa26, c27, rfl, e23, s28, _⟩; refine ⟨_, rfl, ?_⟩
      replace cx := cx.step e23 rfl
      clear e23
      refine LW.assign wn rfl rfl ?_
      refine LW.assign wn rfl rfl ?_
      refine LW.nil ?_
      refine EW.seq_n ?_
      refine CW.ret ?_
      obtain rfl := Option.some.inj hm
      exact EW.rets (vs := [.slice oa26 y21.length c27, .int .i64 0]) rfl ⟨rfl, rfl, trivial⟩ rfl ⟨oa26, c27, rfl, (cx.ste t), (s28.keep (cx.keeps t)), trivial⟩
set_option linter.unusedVariables false in
def m_block_length (a0 : Int) : Option (Int) :=
  bnd (Gk.shl 16 a0) fun x1 =>
  some x1
set_option maxRecDepth 100000 in
set_option maxHeartbeats 2000000 in
theorem c_block_length {lab : Lab} {w : World} {a0 : Int} {r : Int} (hm : m_block_length a0 = some r) (t : Top lab w) : Calls Try.prog 31 [.int .i64 a0].toArray w (fun e w' => e = .returned (.int .i64 r) ∧ Ste lab 0 w lab w' ∧ True) := by
  refine enter Try.func31 rfl 5 rfl rfl ?_
  have cx := Cx.start t
  refine CW.sub (G := [(0, .int .i64 a0)]) ⟨rfl, trivial⟩ ?_
  unfold m_block_length at hm
  refine CW.seq ?_
  refine CW.region ?_
  refine LW.assign wn rfl rfl ?_
  refine LW.nil ?_
  refine EW.seq_n ?_
  refine CW.seq ?_
  refine CW.region ?_
  refine LW.move wn rfl rfl ?_
  refine LW.shl hm wn rfl rfl rfl ?_; clear hm; intro x1 hm
  refine LW.assign wn rfl rfl ?_
  refine LW.nil ?_
  refine EW.seq_n ?_
  refine CW.ret ?_
  obtain rfl := Option.some.inj hm
  exact EW.ret1 rfl rfl ⟨rfl, (cx.ste t), trivial⟩
set_option linter.unusedVariables false in
def m_block_Cut (a0 : List UInt8) (a1 : Int) (a2 : Int) : Option ((List UInt8) × Bool × Int) :=
  bnd (m_block_sound (S_api_Block.mk a1 false a2)) fun y4 =>
  letm (!y4) fun x9 =>
  (cond x9 (some ([], false, 1))
   (bnd (m_block_length a2) fun y11 =>
  letm (w64 (a1 * y11)) fun x16 =>
  bnd (letm (decide ((a0.length : Int) ≤ x16)) fun x21 =>
  (cond x21 (letm (w64 (x16 + (a0.length : Int))) fun x24 =>
  letm (decide (0 < x24)) fun x25 =>
  some (x25))
   (some (false))) : Option (Bool)) fun y17 =>
  (cond y17 (some ([], false, 10))
   (bnd (m_block_length a2) fun y27 =>
  letm (w64 (x16 + y27)) fun x32 =>
  letm (min (a0.length : Int) x32) fun x33 =>
  bnd (cut a0 x16 x33) fun x34 =>
  bnd (m_bytes_Clone x34) fun y38 =>
  letm (decide (x33 < (a0.length : Int))) fun x46 =>
  some (y38, x46, 0)))))
set_option maxRecDepth 100000 in
set_option maxHeartbeats 2000000 in
theorem c_block_Cut {lab : Lab} {w : World} {a0 : List UInt8} {a1 : Int} {a2 : Int} {r : (List UInt8) × Bool × Int} (hm : m_block_Cut a0 a1 a2 = some r) (t : Top lab w) {oa1 : Option Addr} {c2 : Nat} (s3 : SL Rep.u8 lab w oa1 c2 a0) : Calls Try.prog 20 [.slice oa1 a0.length c2, .int .i64 a1, .int .i64 a2].toArray w (fun e w' => ∃ (oa0_0 : Option Addr) (c0_0 : Nat), e = .returned (.tuple [.slice oa0_0 r.1.length c0_0, .bool r.2.1, .int .i64 r.2.2].toArray) ∧ Ste lab 0 w lab w' ∧ SL Rep.u8 lab w' oa0_0 c0_0 r.1 ∧ True) := by
  refine enter Try.func20 rfl 47 rfl rfl ?_
  have cx := Cx.start t
  replace s3 := s3.keep Keeps.lin
  refine CW.sub (G := [(0, .slice oa1 a0.length c2), (1, .int .i64 a1), (2, .int .i64 a2)]) ⟨rfl, rfl, rfl, trivial⟩ ?_
  unfold m_block_Cut at hm
  refine CW.seq ?_
  refine CW.region ?_
  refine LW.assign wn rfl rfl ?_
  refine LW.assign wn rfl rfl ?_
  refine LW.assign wn rfl rfl ?_
  refine LW.nil ?_
  refine EW.seq_n ?_
  refine CW.seq ?_
  refine CW.seq ?_
  refine CW.region ?_
  refine LW.move wn rfl rfl ?_
  refine LW.move wn rfl rfl ?_
  refine LW.build (vs := [(0, .int .i64 a1), (2, .int .i64 a2)]) (cs := [.int .i64 a1, .bool false, .int .i64 a2]) rfl ((kBuilt_26 _).trans rfl) wn rfl ?_
  obtain ⟨y4, h8, hm_⟩ := bnd_some hm; clear hm; have hm := hm_; clear hm_
  refine LW.call kFn_30 (c_block_sound h8 cx.top) wn rfl rfl ?_
  rintro _ w5 ⟨rfl, e6, _⟩; refine ⟨_, rfl, ?_⟩
  replace cx := cx.step e6 rfl
  replace s3 := s3.step e6
  clear e6
  refine LW.not hm wn rfl rfl ?_; clear hm; intro x9 hm
  refine LW.nil ?_
  refine EW.seq_n ?_
  refine CW.cond (b := x9) rfl (fun hb10 => ?_) (fun hb10 => ?_)
  · replace hm := cond_t hm hb10
    refine CW.seq ?_
    refine CW.region ?_
    refine LW.assign wn rfl rfl ?_
    refine LW.assign wn rfl rfl ?_
    refine LW.assign wn rfl rfl ?_
    refine LW.nil ?_
    refine EW.seq_n ?_
    refine CW.ret ?_
    refine EW.seq_r ?_
    obtain rfl := Option.some.inj hm
    exact EW.rets (vs := [.slice none 0 0, .bool false, .int .i64 1]) rfl ⟨rfl, rfl, rfl, trivial⟩ rfl ⟨none, 0, rfl, (cx.ste t), SL.nil, trivial⟩
  · replace hm := cond_f hm hb10
    refine CW.skip ?_
    refine EW.seq_n ?_
    refine CW.seq ?_
    refine CW.region ?_
    refine LW.move wn rfl rfl ?_
    refine LW.move wn rfl rfl ?_
    obtain ⟨y11, h15, hm_⟩ := bnd_some hm; clear hm; have hm := hm_; clear hm_
    refine LW.call kFn_31 (c_block_length h15 cx.top) wn rfl rfl ?_
    rintro _ w12 ⟨rfl, e13, _⟩; refine ⟨_, rfl, ?_⟩
    replace cx := cx.step e13 rfl
    replace s3 := s3.step e13
    clear e13
    refine LW.mul hm wn rfl rfl rfl ?_; clear hm; intro x16 hm
    refine LW.assign wn rfl rfl ?_
    refine LW.nil ?_
    refine EW.seq_n ?_
    refine CW.seq ?_
    refine CW.seq ?_
    obtain ⟨y17, h18, hm_⟩ := bnd_some hm; clear hm
    refine CW.join_any (fun F_ w19 => ∃ (lab20 : Lab) , F_ = [(0, .slice oa1 a0.length c2), (2, .int .i64 a2), (9, .int .i64 x16), (30, .bool y17)] ∧ Cx [] w lab w19 lab20 ∧ SL Rep.u8 lab20 w19 oa1 c2 a0 ∧ True) ?_ ?_
    · have hm := h18; clear h18
      refine CW.region ?_
      refine LW.move wn rfl rfl ?_
      refine LW.move wn rfl rfl ?_
      refine LW.len kUnd_24 wn rfl rfl ?_
      refine LW.geq hm wn rfl rfl rfl ?_; clear hm; intro x21 hm
      refine LW.move wn rfl rfl ?_
      rcases Bool.eq_false_or_eq_true x21 with hb23 | hb23
      · replace hm := cond_t hm hb23
        refine LW.move (ws 24 rfl (bk rfl hb23)) rfl rfl ?_
        refine LW.move (ws 24 rfl (bk rfl hb23)) rfl rfl ?_
        refine LW.len kUnd_24 (ws 24 rfl (bk rfl hb23)) rfl rfl ?_
        refine LW.add hm (ws 24 rfl (bk rfl hb23)) rfl rfl rfl ?_; clear hm; intro x24 hm
        refine LW.gtr hm (ws 24 rfl (bk rfl hb23)) rfl rfl rfl ?_; clear hm; intro x25 hm
        refine LW.pick_t wn rfl (bk rfl hb23) rfl ?_
        refine LW.nil ?_
        obtain rfl := Option.some.inj hm
        refine EW.sub (G := [(0, .slice oa1 a0.length c2), (2, .int .i64 a2), (9, .int .i64 x16), (30, .bool x25)]) ⟨rfl, rfl, rfl, rfl, trivial⟩ ?_
        exact EW.join_n ⟨_, rfl, cx, s3, trivial⟩
      · replace hm := cond_f hm hb23
        refine LW.skip 24 rfl (bk rfl hb23) rfl rfl ?_
        refine LW.skip 24 rfl (bk rfl hb23) rfl rfl ?_
        refine LW.skip 24 rfl (bk rfl hb23) rfl rfl ?_
        refine LW.skip 24 rfl (bk rfl hb23) rfl rfl ?_
        refine LW.skip 24 rfl (bk rfl hb23) rfl rfl ?_
        refine LW.pick_f wn rfl (bk rfl hb23) rfl ?_
        refine LW.nil ?_
        obtain rfl := Option.some.inj hm
        refine EW.sub (G := [(0, .slice oa1 a0.length c2), (2, .int .i64 a2), (9, .int .i64 x16), (30, .bool false)]) ⟨rfl, rfl, rfl, rfl, trivial⟩ ?_
        exact EW.join_n ⟨_, rfl, cx, s3, trivial⟩
    · rintro _ w19 ⟨lab20, rfl, cx, s3, _⟩
      have hm := hm_; clear hm_
      refine EW.seq_n ?_
      refine CW.cond (b := y17) rfl (fun hb26 => ?_) (fun hb26 => ?_)
      · replace hm := cond_t hm hb26
        refine CW.seq ?_
        refine CW.region ?_
        refine LW.assign wn rfl rfl ?_
        refine LW.assign wn rfl rfl ?_
        refine LW.assign wn rfl rfl ?_
        refine LW.nil ?_
        refine EW.seq_n ?_
        refine CW.ret ?_
        refine EW.seq_r ?_
        obtain rfl := Option.some.inj hm
        exact EW.rets (vs := [.slice none 0 0, .bool false, .int .i64 10]) rfl ⟨rfl, rfl, rfl, trivial⟩ rfl ⟨none, 0, rfl, (cx.ste t), SL.nil, trivial⟩
      · replace hm := cond_f hm hb26
        refine CW.skip ?_
        refine EW.seq_n ?_
        refine CW.seq ?_
        refine CW.region ?_
        refine LW.move wn rfl rfl ?_
        refine LW.len kUnd_24 wn rfl rfl ?_
        refine LW.move wn rfl rfl ?_
        refine LW.move wn rfl rfl ?_
        obtain ⟨y27, h31, hm_⟩ := bnd_some hm; clear hm; have hm := hm_; clear hm_
        refine LW.call kFn_31 (c_block_length h31 cx.top) wn rfl rfl ?_
        rintro _ w28 ⟨rfl, e29, _⟩; refine ⟨_, rfl, ?_⟩
        replace cx := cx.step e29 rfl
        replace s3 := s3.step e29
        clear e29
        refine LW.add hm wn rfl rfl rfl ?_; clear hm; intro x32 hm
        refine LW.min2 hm wn rfl rfl rfl ?_; clear hm; intro x33 hm
        refine LW.assign wn rfl rfl ?_
        refine LW.nil ?_
        refine EW.seq_n ?_
        refine CW.seq ?_
        refine CW.region ?_
        refine LW.move wn rfl rfl ?_
        refine LW.move wn rfl rfl ?_
        refine LW.move wn rfl rfl ?_
        refine LW.slice_lh hm s3 kSl_24 wn rfl rfl rfl rfl ?_; clear hm; intro x34 oa35 c36 hm s37
        obtain ⟨y38, h42, hm_⟩ := bnd_some hm; clear hm; have hm := hm_; clear hm_
        refine LW.call kFn_33 (c_bytes_Clone h42 cx.top s37) wn rfl rfl ?_
        rintro _ w39 ⟨oa43, c44, rfl, e40, s45, _⟩; refine ⟨_, rfl, ?_⟩
        replace cx := cx.step e40 rfl
        replace s3 := s3.step e40
        replace s37 := s37.step e40
        clear e40
        refine LW.move wn rfl rfl ?_
        refine LW.move wn rfl rfl ?_
        refine LW.len kUnd_24 wn rfl rfl ?_
        refine LW.lss hm wn rfl rfl rfl ?_; clear hm; intro x46 hm
        refine LW.assign wn rfl rfl ?_
        refine LW.assign wn rfl rfl ?_
        refine LW.assign wn rfl rfl ?_
        refine LW.nil ?_
        refine EW.seq_n ?_
        refine CW.ret ?_
        obtain rfl := Option.some.inj hm
        exact EW.rets (vs := [.slice oa43 y38.length c44, .bool x46, .int .i64 0]) rfl ⟨rfl, rfl, rfl, trivial⟩ rfl ⟨oa43, c44, rfl, (cx.ste t), (s45.keep (cx.keeps t)), trivial⟩
set_option linter.unusedVariables false in
def m_block_find_l1 (a1 : Int) (a2 : List UInt8) : List S_api_Partial → Nat → Option (Int ⊕ Unit)
    | [], k17 => some (Sum.inr ())
    | x19 :: rem18, k17 => bnd (letm (x19.Peer == a1) fun x42 =>
  (cond x42 (bnd (m_bytes_Equal x19.Key a2) fun y45 =>
  some (y45))
   (some (false))) : Option (Bool)) fun y38 =>
  (cond y38 (some (Sum.inl ((k17 : Nat) : Int)))
   (m_block_find_l1 a1 a2 rem18 (k17 + 1)))
set_option linter.unusedVariables false in
def m_block_find (a0 : List S_api_Partial) (a1 : Int) (a2 : List UInt8) : Option (Int) :=
  bndS (m_block_find_l1 a1 a2 a0 0 : Option (Int ⊕ Unit)) (fun q => q) fun y7 =>
  some (-1)
set_option maxRecDepth 100000 in
set_option maxHeartbeats 2000000 in
theorem c_block_find {lab : Lab} {w : World} {a0 : List S_api_Partial} {a1 : Int} {a2 : List UInt8} {r : Int} (hm : m_block_find a0 a1 a2 = some r) (t : Top lab w) {oa1 : Option Addr} {c2 : Nat} (s3 : SL R_api_Partial lab w oa1 c2 a0) {oa4 : Option Addr} {c5 : Nat} (s6 : SL Rep.u8 lab w oa4 c5 a2) : Calls Try.prog 29 [.slice oa1 a0.length c2, .int .i64 a1, .slice oa4 a2.length c5].toArray w (fun e w' => e = .returned (.int .i64 r) ∧ Ste lab 0 w lab w' ∧ True) := by
  refine enter Try.func29 rfl 28 rfl rfl ?_
  have cx := Cx.start t
  replace s3 := s3.keep Keeps.lin
  replace s6 := s6.keep Keeps.lin
  refine CW.sub (G := [(0, .slice oa1 a0.length c2), (1, .int .i64 a1), (2, .slice oa4 a2.length c5)]) ⟨rfl, rfl, rfl, trivial⟩ ?_
  unfold m_block_find at hm
  refine CW.seq ?_
  refine CW.region ?_
  refine LW.assign wn rfl rfl ?_
  refine LW.nil ?_
  refine EW.seq_n ?_
  refine CW.seq ?_
  refine CW.seq ?_
  refine CW.region ?_
  refine LW.move wn rfl rfl ?_
  refine LW.len kUnd_22 wn rfl rfl ?_
  refine LW.move wn rfl rfl ?_
  refine LW.nil ?_
  refine EW.seq_n ?_
  obtain ⟨s8, h9, hs10, hs11⟩ := bndS_some hm; clear hm
  refine CW.join_any (fun F_ w12 => ∃ (y7 : Unit) (lab13 : Lab) , s8 = .inr y7 ∧ F_ = [] ∧ Cx [] w lab w12 lab13 ∧ True) ?_ ?_
  · have hm := h9; clear h9
    refine CW.block ?_
    refine CW.sub (G := [(1, .int .i64 a1), (2, .slice oa4 a2.length c5), (9, .slice oa1 a0.length c2), (10, .int .i64 (a0.length : Int)), (11, .int .i64 0)]) ⟨rfl, rfl, rfl, rfl, rfl, trivial⟩ ?_
    refine CW.loop (fun n16 F_ w14 => ∃ (lab15 : Lab) (k17 : Nat) (rem18 : List S_api_Partial)  , n16 = rem18.length ∧ a0.drop k17 = rem18 ∧ F_ = [(1, .int .i64 a1), (2, .slice oa4 a2.length c5), (9, .slice oa1 a0.length c2), (10, .int .i64 (a0.length : Int)), (11, .int .i64 ((k17 : Nat) : Int))] ∧ Cx [] w lab w14 lab15 ∧ SL Rep.u8 lab15 w14 oa4 c5 a2 ∧ SL R_api_Partial lab15 w14 oa1 c2 a0 ∧ m_block_find_l1 a1 a2 rem18 k17 = some s8) _ ⟨_, 0, a0, rfl, rfl, rfl, cx, s6, s3, hm⟩ ?_
    rintro n16 _ w14 ⟨lab15, k17, rem18, rfl, hd, rfl, cx, s6, s3, hm⟩
    rcases rem18 with _ | ⟨x19, rem18⟩
    · rw [m_block_find_l1] at hm; have hlt := drop_nil hd
      refine CW.seq ?_
      refine CW.region ?_
      refine LW.lss_lit hlt wn rfl rfl rfl ?_
      refine LW.nil ?_
      refine EW.seq_n ?_
      refine CW.seq ?_
      refine CW.cond_f rfl ?_
      refine CW.exit ?_
      refine EW.seq_x ?_
      refine EW.join_x ?_
      refine EW.block_x ?_
      obtain rfl := Option.some.inj hm
      refine EW.sub (G := []) trivial ?_
      exact EW.join_n ⟨(), _, rfl, rfl, cx, trivial⟩
    · rw [m_block_find_l1] at hm; obtain ⟨hlt, hix, hd, hlt2⟩ := drop_cons hd
      refine CW.seq ?_
      refine CW.region ?_
      refine LW.lss_lit hlt wn rfl rfl rfl ?_
      refine LW.nil ?_
      refine EW.seq_n ?_
      refine CW.seq ?_
      refine CW.cond_t rfl ?_
      refine CW.skip ?_
      refine EW.seq_n ?_
      refine CW.seq ?_
      refine CW.block ?_
      refine CW.seq ?_
      refine CW.region ?_
      refine LW.move wn rfl rfl ?_
      refine LW.index (bnd_ret hix) s3 kSl_22 wn rfl rfl rfl ?_; intro x_ p20 cs21 hx_ hr22 ha23; cases hx_
      obtain ⟨oa24, c25, oa27, c28, rfl, s26, s29, _⟩ := hr22
      refine LW.loadAn ha23 kAgg_63 rfl wn rfl rfl ?_
      refine LW.alloc 18 [.int .i64 0, .slice none 0 0, .slice none 0 0, .int .i64 0] kZero_63 rfl cx.top wn rfl ?_
      intro g30 lab31 w32 e33 b34
      replace cx := cx.step e33 rfl
      replace s6 := s6.step e33
      replace s3 := s3.step e33
      replace ha23 := ha23.step e33
      replace s26 := s26.step e33
      replace s29 := s29.step e33
      clear e33
      refine LW.assign wn rfl rfl ?_
      refine LW.storeBn [.int .i64 x19.Peer, .slice oa24 x19.Key.length c25, .slice oa27 x19.Data.length c28, .int .i64 x19.Until] [.int .i64 x19.Peer, .slice oa24 x19.Key.length c25, .slice oa27 x19.Data.length c28, .int .i64 x19.Until] b34 cx.top rfl kAgg_63 rfl rfl rfl rfl wn rfl rfl ?_
      intro w35 e36 b37; clear b34
      replace cx := cx.step e36 rfl
      replace s6 := s6.step e36
      replace s26 := s26.step e36
      replace s29 := s29.step e36
      replace s3 := s3.step e36
      replace ha23 := ha23.step e36
      clear e36
      refine LW.nil ?_
      refine EW.seq_n ?_
      refine CW.seq ?_
      obtain ⟨y38, h39, hm_⟩ := bnd_some hm; clear hm
      refine CW.join_any (fun F_ w40 => ∃ (lab41 : Lab) , F_ = [(1, .int .i64 a1), (2, .slice oa4 a2.length c5), (7, .int .i64 ((k17 : Nat) : Int)), (9, .slice oa1 a0.length c2), (10, .int .i64 (a0.length : Int)), (11, .int .i64 ((k17 : Nat) : Int)), (25, .bool y38)] ∧ Cx [] w lab w40 lab41 ∧ SL Rep.u8 lab41 w40 oa4 c5 a2 ∧ SL R_api_Partial lab41 w40 oa1 c2 a0 ∧ True) ?_ ?_
      · have hm := h39; clear h39
        refine CW.region ?_
        refine LW.fldB 0 kFld_63_0 rfl wn rfl rfl ?_
        refine LW.loadB1 b37 kOne_3 rfl wn rfl rfl ?_
        refine LW.move wn rfl rfl ?_
        refine LW.eql hm wn rfl rfl rfl ?_; clear hm; intro x42 hm
        refine LW.move wn rfl rfl ?_
        rcases Bool.eq_false_or_eq_true x42 with hb44 | hb44
        · replace hm := cond_t hm hb44
          refine LW.fldB 1 kFld_63_1 rfl (ws 20 rfl (bk rfl hb44)) rfl rfl ?_
          refine LW.loadB1 b37 kOne_24 rfl (ws 20 rfl (bk rfl hb44)) rfl rfl ?_
          refine LW.move (ws 20 rfl (bk rfl hb44)) rfl rfl ?_
          obtain ⟨y45, h49, hm_⟩ := bnd_some hm; clear hm; have hm := hm_; clear hm_
          refine LW.call kFn_40 (c_bytes_Equal h49 cx.top s26 s6) (ws 20 rfl (bk rfl hb44)) rfl rfl ?_
          rintro _ w46 ⟨rfl, e47, _⟩; refine ⟨_, rfl, ?_⟩
          replace cx := cx.step e47 rfl
          replace s6 := s6.step e47
          replace b37 := b37.step e47 rfl
          replace s26 := s26.step e47
          replace s29 := s29.step e47
          replace s3 := s3.step e47
          clear e47
          refine LW.pick_t wn rfl (bk rfl hb44) rfl ?_
          refine LW.nil ?_
          obtain rfl := Option.some.inj hm
          refine EW.sub (G := [(1, .int .i64 a1), (2, .slice oa4 a2.length c5), (7, .int .i64 ((k17 : Nat) : Int)), (9, .slice oa1 a0.length c2), (10, .int .i64 (a0.length : Int)), (11, .int .i64 ((k17 : Nat) : Int)), (25, .bool y45)]) ⟨rfl, rfl, rfl, rfl, rfl, rfl, rfl, trivial⟩ ?_
          exact EW.join_n ⟨_, rfl, cx, s6, s3, trivial⟩
        · replace hm := cond_f hm hb44
          refine LW.skip 20 rfl (bk rfl hb44) rfl rfl ?_
          refine LW.skip 20 rfl (bk rfl hb44) rfl rfl ?_
          refine LW.skip 20 rfl (bk rfl hb44) rfl rfl ?_
          refine LW.skip 20 rfl (bk rfl hb44) rfl rfl ?_
          refine LW.pick_f wn rfl (bk rfl hb44) rfl ?_
          refine LW.nil ?_
          obtain rfl := Option.some.inj hm
          refine EW.sub (G := [(1, .int .i64 a1), (2, .slice oa4 a2.length c5), (7, .int .i64 ((k17 : Nat) : Int)), (9, .slice oa1 a0.length c2), (10, .int .i64 (a0.length : Int)), (11, .int .i64 ((k17 : Nat) : Int)), (25, .bool false)]) ⟨rfl, rfl, rfl, rfl, rfl, rfl, rfl, trivial⟩ ?_
          exact EW.join_n ⟨_, rfl, cx, s6, s3, trivial⟩
      · rintro _ w40 ⟨lab41, rfl, cx, s6, s3, _⟩
        have hm := hm_; clear hm_
        refine EW.seq_n ?_
        refine CW.cond (b := y38) rfl (fun hb50 => ?_) (fun hb50 => ?_)
        · replace hm := cond_t hm hb50
          refine CW.seq ?_
          refine CW.region ?_
          refine LW.move wn rfl rfl ?_
          refine LW.assign wn rfl rfl ?_
          refine LW.nil ?_
          refine EW.seq_n ?_
          refine CW.ret ?_
          refine EW.block_r ?_
          refine EW.seq_r ?_
          refine EW.join_r ?_
          refine EW.block_r ?_
          refine EW.join_r ?_
          obtain rfl := Option.some.inj hm; have hm := hs10 _ rfl
          refine EW.seq_r ?_
          obtain rfl := Option.some.inj hm
          exact EW.ret1 rfl rfl ⟨rfl, (cx.ste t), trivial⟩
        · replace hm := cond_f hm hb50
          refine CW.skip ?_
          refine EW.block_n ?_
          refine EW.seq_n ?_
          refine CW.region ?_
          refine LW.add_lit (w64_succ hlt2 s3.le) wn rfl rfl rfl ?_
          refine LW.move wn rfl rfl ?_
          refine LW.nil ?_
          refine EW.sub (G := [(1, .int .i64 a1), (2, .slice oa4 a2.length c5), (9, .slice oa1 a0.length c2), (10, .int .i64 (a0.length : Int)), (11, .int .i64 ((k17 + 1 : Nat) : Int))]) ⟨rfl, rfl, rfl, rfl, rfl, trivial⟩ ?_
          exact EW.join_n ⟨_, Nat.lt_succ_self _, _, k17 + 1, rem18, rfl, hd, rfl, cx, s6, s3, hm⟩
  · rintro _ w12 ⟨y7, lab13, hsr_, rfl, cx, _⟩
    have hm := hs11 _ hsr_; clear hsr_
    refine EW.seq_n ?_
    refine CW.seq ?_
    refine CW.region ?_
    refine LW.assign wn rfl rfl ?_
    refine LW.nil ?_
    refine EW.seq_n ?_
    refine CW.ret ?_
    obtain rfl := Option.some.inj hm
    exact EW.ret1 rfl rfl ⟨rfl, (cx.ste t), trivial⟩
end Go.Proofs.Ytaefnnamjphieaa
