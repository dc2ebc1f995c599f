/-
  Package block: models of its functions, and that the functions compute them. No condition but that the model has a value.
-/
import Derived.Test.YtaefnnamjphieaaPBlockC
namespace Go.Proofs.Ytaefnnamjphieaa
open Go.Gk Go.RowKit
set_option linter.unusedVariables false in
def m_block_Parse (a0 : List UInt8) : Option (S_api_Block × Int) :=
  bnd (m_option_Uint a0) fun y9 =>
  bnd (letm (decide (3 < (a0.length : Int))) fun x18 =>
  (cond x18 (some (true))
   (letm (y9.2 != 0) fun x21 =>
  (cond x21 (some (true))
   (letm (ibit .and y9.1 7) fun x24 =>
  letm (x24 == 7) fun x25 =>
  some (x25))))) : Option (Bool)) fun y14 =>
  (cond y14 (some ((S_api_Block.mk 0 false 0), 4))
   (bnd (Gk.shr y9.1 ((4 : UInt64).toNat : Int)) fun x30 =>
  letm (ibit .and y9.1 8) fun x31 =>
  letm (x31 == 8) fun x32 =>
  letm (ibit .and y9.1 7) fun x33 =>
  some ((S_api_Block.mk x30 x32 x33), 0)))
set_option maxRecDepth 100000 in
set_option maxHeartbeats 2000000 in
theorem c_block_Parse {lab : Lab} {w : World} {a0 : List UInt8} {r : S_api_Block × Int} (hm : m_block_Parse a0 = some r) (t : Top lab w) {oa1 : Option Addr} {c2 : Nat} (s3 : SL Rep.u8 lab w oa1 c2 a0) : Calls Try.prog 27 [.slice oa1 a0.length c2].toArray w (fun e w' => e = .returned (.tuple [.agg [.int .i64 r.1.Num, .bool r.1.More, .int .i64 r.1.Size].toArray, .int .i64 r.2].toArray) ∧ Ste lab 0 w lab w' ∧ True) := by
  refine enter Try.func27 rfl 32 rfl rfl ?_
  have cx := Cx.start t
  replace s3 := s3.keep Keeps.lin
  refine CW.sub (G := [(0, .slice oa1 a0.length c2)]) ⟨rfl, trivial⟩ ?_
  unfold m_block_Parse at hm
  refine CW.seq ?_
  refine CW.region ?_
  refine LW.alloc 12 [.int .i64 0, .bool false, .int .i64 0] kZero_26 rfl cx.top wn rfl ?_
  intro g4 lab5 w6 e7 b8
  replace cx := cx.step e7 rfl
  replace s3 := s3.step e7
  clear e7
  refine LW.assign wn rfl rfl ?_
  refine LW.nil ?_
  refine EW.seq_n ?_
  refine CW.seq ?_
  refine CW.region ?_
  refine LW.move wn rfl rfl ?_
  obtain ⟨y9, h13, hm_⟩ := bnd_some hm; clear hm; have hm := hm_; clear hm_
  refine LW.call kFn_38 (c_option_Uint h13 cx.top s3) wn rfl rfl ?_
  rintro _ w10 ⟨rfl, e11, _⟩; refine ⟨_, rfl, ?_⟩
  replace cx := cx.step e11 rfl
  replace s3 := s3.step e11
  replace b8 := b8.step e11 rfl
  clear e11
  refine LW.move wn rfl rfl ?_
  refine LW.extract wn rfl rfl rfl ?_
  refine LW.extract wn rfl rfl rfl ?_
  refine LW.assign wn rfl rfl ?_
  refine LW.assign wn rfl rfl ?_
  refine LW.nil ?_
  refine EW.seq_n ?_
  refine CW.seq ?_
  refine CW.seq ?_
  obtain ⟨y14, h15, hm_⟩ := bnd_some hm; clear hm
  refine CW.join_any (fun F_ w16 => ∃ (lab17 : Lab) , F_ = [(2, .pointer (some ⟨g4, 0, none⟩)), (4, .int .i64 y9.1), (22, .bool y14)] ∧ Cx [] w lab w16 lab17 ∧ Box lab17 w16 12 g4 26 [.int .i64 0, .bool false, .int .i64 0] ∧ True) ?_ ?_
  · have hm := h15; clear h15
    refine CW.region ?_
    refine LW.move wn rfl rfl ?_
    refine LW.len kUnd_24 wn rfl rfl ?_
    refine LW.gtr hm wn rfl rfl rfl ?_; clear hm; intro x18 hm
    refine LW.move wn rfl rfl ?_
    rcases Bool.eq_false_or_eq_true x18 with hb20 | hb20
    · replace hm := cond_t hm hb20
      refine LW.skip 14 rfl (bk rfl hb20) rfl rfl ?_
      refine LW.skip 14 rfl (bk rfl hb20) rfl rfl ?_
      refine LW.pick_t wn rfl (bk rfl hb20) rfl ?_
      refine LW.move wn rfl rfl ?_
      refine LW.skip 18 rfl rfl rfl rfl ?_
      refine LW.skip 18 rfl rfl rfl rfl ?_
      refine LW.skip 18 rfl rfl rfl rfl ?_
      refine LW.pick_t wn rfl rfl rfl ?_
      refine LW.nil ?_
      obtain rfl := Option.some.inj hm
      refine EW.sub (G := [(2, .pointer (some ⟨g4, 0, none⟩)), (4, .int .i64 y9.1), (22, .bool true)]) ⟨rfl, rfl, rfl, trivial⟩ ?_
      exact EW.join_n ⟨_, rfl, cx, b8, trivial⟩
    · replace hm := cond_f hm hb20
      refine LW.move (ws 14 rfl (bk rfl hb20)) rfl rfl ?_
      refine LW.neq hm (ws 14 rfl (bk rfl hb20)) rfl rfl rfl ?_; clear hm; intro x21 hm
      refine LW.pick_f wn rfl (bk rfl hb20) rfl ?_
      refine LW.move wn rfl rfl ?_
      rcases Bool.eq_false_or_eq_true x21 with hb23 | hb23
      · replace hm := cond_t hm hb23
        refine LW.skip 18 rfl (bk rfl hb23) rfl rfl ?_
        refine LW.skip 18 rfl (bk rfl hb23) rfl rfl ?_
        refine LW.skip 18 rfl (bk rfl hb23) rfl rfl ?_
        refine LW.pick_t wn rfl (bk rfl hb23) rfl ?_
        refine LW.nil ?_
        obtain rfl := Option.some.inj hm
        refine EW.sub (G := [(2, .pointer (some ⟨g4, 0, none⟩)), (4, .int .i64 y9.1), (22, .bool true)]) ⟨rfl, rfl, rfl, trivial⟩ ?_
        exact EW.join_n ⟨_, rfl, cx, b8, trivial⟩
      · replace hm := cond_f hm hb23
        refine LW.move (ws 18 rfl (bk rfl hb23)) rfl rfl ?_
        refine LW.iand hm (ws 18 rfl (bk rfl hb23)) rfl rfl rfl ?_; clear hm; intro x24 hm
        refine LW.eql hm (ws 18 rfl (bk rfl hb23)) rfl rfl rfl ?_; clear hm; intro x25 hm
        refine LW.pick_f wn rfl (bk rfl hb23) rfl ?_
        refine LW.nil ?_
        obtain rfl := Option.some.inj hm
        refine EW.sub (G := [(2, .pointer (some ⟨g4, 0, none⟩)), (4, .int .i64 y9.1), (22, .bool x25)]) ⟨rfl, rfl, rfl, trivial⟩ ?_
        exact EW.join_n ⟨_, rfl, cx, b8, trivial⟩
  · rintro _ w16 ⟨lab17, rfl, cx, b8, _⟩
    have hm := hm_; clear hm_
    refine EW.seq_n ?_
    refine CW.cond (b := y14) rfl (fun hb26 => ?_) (fun hb26 => ?_)
    · replace hm := cond_t hm hb26
      refine CW.seq ?_
      refine CW.region ?_
      refine LW.build (vs := []) (cs := [.int .i64 0, .bool false, .int .i64 0]) rfl ((kBuilt_26 _).trans rfl) wn rfl ?_
      refine LW.storeBn [.int .i64 0, .bool false, .int .i64 0] [.int .i64 0, .bool false, .int .i64 0] b8 cx.top rfl kAgg_26 rfl rfl rfl rfl wn rfl rfl ?_
      intro w27 e28 b29; clear b8
      replace cx := cx.step e28 rfl
      clear e28
      refine LW.assign wn rfl rfl ?_
      refine LW.nil ?_
      refine EW.seq_n ?_
      refine CW.ret ?_
      refine EW.seq_r ?_
      obtain rfl := Option.some.inj hm
      exact EW.rets (vs := [.agg ([.int .i64 0, .bool false, .int .i64 0] : List Value).toArray, .int .i64 4]) rfl ⟨(Box.rv b29 kAgg_26 rfl rfl), rfl, trivial⟩ rfl ⟨rfl, (cx.ste t), trivial⟩
    · replace hm := cond_f hm hb26
      refine CW.skip ?_
      refine EW.seq_n ?_
      refine CW.seq ?_
      refine CW.region ?_
      refine LW.move wn rfl rfl ?_
      refine LW.shr hm wn rfl rfl rfl ?_; clear hm; intro x30 hm
      refine LW.move wn rfl rfl ?_
      refine LW.iand hm wn rfl rfl rfl ?_; clear hm; intro x31 hm
      refine LW.eql hm wn rfl rfl rfl ?_; clear hm; intro x32 hm
      refine LW.move wn rfl rfl ?_
      refine LW.iand hm wn rfl rfl rfl ?_; clear hm; intro x33 hm
      refine LW.build (vs := [(0, .int .i64 x30), (1, .bool x32), (2, .int .i64 x33)]) (cs := [.int .i64 x30, .bool x32, .int .i64 x33]) rfl ((kBuilt_26 _).trans rfl) wn rfl ?_
      refine LW.storeBn [.int .i64 x30, .bool x32, .int .i64 x33] [.int .i64 x30, .bool x32, .int .i64 x33] b8 cx.top rfl kAgg_26 rfl rfl rfl rfl wn rfl rfl ?_
      intro w34 e35 b36; clear b8
      replace cx := cx.step e35 rfl
      clear e35
      refine LW.assign wn rfl rfl ?_
      refine LW.nil ?_
      refine EW.seq_n ?_
      refine CW.ret ?_
      obtain rfl := Option.some.inj hm
      exact EW.rets (vs := [.agg ([.int .i64 x30, .bool x32, .int .i64 x33] : List Value).toArray, .int .i64 0]) rfl ⟨(Box.rv b36 kAgg_26 rfl rfl), rfl, trivial⟩ rfl ⟨rfl, (cx.ste t), trivial⟩
end Go.Proofs.Ytaefnnamjphieaa
