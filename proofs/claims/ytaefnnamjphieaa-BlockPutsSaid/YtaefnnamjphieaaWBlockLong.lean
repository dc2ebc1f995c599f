/-
  The law BlockLong: its model, and that it computes it. No condition but that the model has a value.
-/
import Derived.Test.YtaefnnamjphieaaPCoreseclaw18
namespace Go.Proofs.Ytaefnnamjphieaa
open Go.Gk Go.RowKit
set_option linter.unusedVariables false in
def m_coreseclaw18_BlockLong_l1 (a0 : Int) (x6 : Int) : Nat → Nat → (List S_api_Partial) → (List S_api_Partial) → Option (Bool ⊕ Unit)
    | 0, k29, x18, x19 => some (Sum.inr ())
    | n28 + 1, k29, x18, x19 => letm (toU64 x6) fun x32 =>
  bnd (Gk.shl 16 (x32.toNat : Int)) fun x33 =>
  bnd (m_coresecmake_Some a0 x33) fun y34 =>
  bnd (m_block_Put x18 1 ([]) (S_api_Block.mk ((k29 : Nat) : Int) true x6) y34 ((k29 : Nat) : Int)) fun y50 =>
  bnd (m_coresecref18_Put x19 1 ([]) (S_api_Block.mk ((k29 : Nat) : Int) true x6) y34 ((k29 : Nat) : Int)) fun y61 =>
  bnd (bnd (m_coresecref18_Same y50.1 y61.1) fun y76 =>
  letm (!y76) fun x81 =>
  (cond x81 (some (true))
   (letm (y50.2.1 != y61.2.1) fun x84 =>
  (cond x84 (some (true))
   (letm (y50.2.2.1 != y61.2.2.1) fun x87 =>
  (cond x87 (some (true))
   (letm (y50.2.2.2 != y61.2.2.2) fun x90 =>
  some (x90))))))) : Option (Bool)) fun y72 =>
  (cond y72 (some (Sum.inl false))
   (letm (y50.2.2.2 == 0) fun x92 =>
  (cond x92 (m_coreseclaw18_BlockLong_l1 a0 x6 n28 (k29 + 1) y50.1 y61.1)
   (m_coreseclaw18_BlockLong_l1 a0 x6 n28 (k29 + 1) x18 x19))))
set_option linter.unusedVariables false in
def m_coreseclaw18_BlockLong (a0 : Int) (a1 : Int) : Option (Bool) :=
  bnd (m_coresecmake_Mod a1 3) fun y1 =>
  letm (w64 (4 + y1)) fun x6 =>
  letm (w64 (x6 + 4)) fun x7 =>
  letm (toU64 x7) fun x8 =>
  bnd (Gk.shr 4096 (x8.toNat : Int)) fun x9 =>
  letm (w64 (x9 + 2)) fun x10 =>
  bndS (bnd (rng x10) fun j30 =>
  m_coreseclaw18_BlockLong_l1 a0 x6 j30 0 ([]) ([]) : Option (Bool ⊕ Unit)) (fun q => q) fun y11 =>
  bnd (m_coreseclaw18_awake ) fun y94 =>
  some y94
set_option maxRecDepth 100000 in
set_option maxHeartbeats 2000000 in
theorem c_coreseclaw18_BlockLong {lab : Lab} {w : World} {a0 : Int} {a1 : Int} {r : Bool} (hm : m_coreseclaw18_BlockLong a0 a1 = some r) (t : Top lab w) : Calls Try.prog 4 [.int .i64 a0, .int .i64 a1].toArray w (fun e w' => e = .returned (.bool r) ∧ Ste lab 0 w lab w' ∧ True) := by
  refine enter Try.func4 rfl 84 rfl rfl ?_
  have cx := Cx.start t
  refine CW.sub (G := [(0, .int .i64 a0), (1, .int .i64 a1)]) ⟨rfl, rfl, trivial⟩ ?_
  unfold m_coreseclaw18_BlockLong at hm
  refine CW.seq ?_
  refine CW.region ?_
  refine LW.assign wn rfl rfl ?_
  refine LW.nil ?_
  refine EW.seq_n ?_
  refine CW.seq ?_
  refine CW.region ?_
  refine LW.move wn rfl rfl ?_
  obtain ⟨y1, h5, hm_⟩ := bnd_some hm; clear hm; have hm := hm_; clear hm_
  refine LW.call kFn_13 (c_coresecmake_Mod h5 cx.top) wn rfl rfl ?_
  rintro _ w2 ⟨rfl, e3, _⟩; refine ⟨_, rfl, ?_⟩
  replace cx := cx.step e3 rfl
  clear e3
  refine LW.add hm wn rfl rfl rfl ?_; clear hm; intro x6 hm
  refine LW.assign wn rfl rfl ?_
  refine LW.nil ?_
  refine EW.seq_n ?_
  refine CW.seq ?_
  refine CW.region ?_
  refine LW.assign wn rfl rfl ?_
  refine LW.assign wn rfl rfl ?_
  refine LW.nil ?_
  refine EW.seq_n ?_
  refine CW.seq ?_
  refine CW.seq ?_
  refine CW.region ?_
  refine LW.move wn rfl rfl ?_
  refine LW.add hm wn rfl rfl rfl ?_; clear hm; intro x7 hm
  refine LW.cvt_u64 hm kIs_3 kInt_37 wn rfl rfl ?_; clear hm; intro x8 hm
  refine LW.shr hm wn rfl rfl rfl ?_; clear hm; intro x9 hm
  refine LW.add hm wn rfl rfl rfl ?_; clear hm; intro x10 hm
  refine LW.move wn rfl rfl ?_
  refine LW.nil ?_
  refine EW.seq_n ?_
  obtain ⟨s12, h13, hs14, hs15⟩ := bndS_some hm; clear hm
  refine CW.join_any (fun F_ w16 => ∃ (y11 : Unit) (lab17 : Lab) , s12 = .inr y11 ∧ F_ = [] ∧ Cx [] w lab w16 lab17 ∧ True) ?_ ?_
  · have hm := h13; clear h13
    refine CW.block ?_
    obtain ⟨j30, h31, hm_⟩ := bnd_some hm; clear hm; have hm := hm_; clear hm_; have hn_h31 := (rng_some h31).1; obtain rfl := (rng_some h31).2
    refine CW.sub (G := [(0, .int .i64 a0), (1, .int .i64 x6), (5, .slice none ([] : List S_api_Partial).length 0), (6, .slice none ([] : List S_api_Partial).length 0), (25, .int .i64 x10), (26, .int .i64 0)]) ⟨rfl, rfl, rfl, rfl, rfl, rfl, trivial⟩ ?_
    refine CW.loop (fun n28 F_ w26 => ∃ (lab27 : Lab) (k29 : Nat) (x18 : List S_api_Partial) (x19 : List S_api_Partial) (oa20 : Option Addr) (c21 : Nat) (oa23 : Option Addr) (c24 : Nat), n28 + k29 = x10.toNat ∧ F_ = [(0, .int .i64 a0), (1, .int .i64 x6), (5, .slice oa20 x18.length c21), (6, .slice oa23 x19.length c24), (25, .int .i64 x10), (26, .int .i64 ((k29 : Nat) : Int))] ∧ Cx [] w lab w26 lab27 ∧ SL R_api_Partial lab27 w26 oa20 c21 x18 ∧ SL R_api_Partial lab27 w26 oa23 c24 x19 ∧ m_coreseclaw18_BlockLong_l1 a0 x6 n28 k29 x18 x19 = some s12) _ ⟨_, 0, _, _, none, 0, none, 0, rfl, rfl, cx, SL.nil, SL.nil, hm⟩ ?_
    rintro n28 _ w26 ⟨lab27, k29, x18, x19, oa20, c21, oa23, c24, hd, rfl, cx, s22, s25, hm⟩
    rcases n28 with _ | n28
    · rw [m_coreseclaw18_BlockLong_l1] at hm; have hlt := rng_stop hd
      refine CW.seq ?_
      refine CW.region ?_
      refine LW.lss_lit hlt wn rfl rfl rfl ?_
      refine LW.nil ?_
      refine EW.seq_n ?_
      refine CW.seq ?_
      refine CW.cond_f rfl ?_
      refine CW.exit ?_
      refine EW.seq_x ?_
      refine EW.join_x ?_
      refine EW.block_x ?_
      obtain rfl := Option.some.inj hm
      refine EW.sub (G := []) trivial ?_
      exact EW.join_n ⟨(), _, rfl, rfl, cx, trivial⟩
    · rw [m_coreseclaw18_BlockLong_l1] at hm; obtain ⟨hlt, hlt2, hd⟩ := rng_go hd
      refine CW.seq ?_
      refine CW.region ?_
      refine LW.lss_lit hlt wn rfl rfl rfl ?_
      refine LW.nil ?_
      refine EW.seq_n ?_
      refine CW.seq ?_
      refine CW.cond_t rfl ?_
      refine CW.skip ?_
      refine EW.seq_n ?_
      refine CW.seq ?_
      refine CW.block ?_
      refine CW.seq ?_
      refine CW.region ?_
      refine LW.move wn rfl rfl ?_
      refine LW.assign wn rfl rfl ?_
      refine LW.nil ?_
      refine EW.seq_n ?_
      refine CW.seq ?_
      refine CW.region ?_
      refine LW.move wn rfl rfl ?_
      refine LW.move wn rfl rfl ?_
      refine LW.cvt_u64 hm kIs_3 kInt_37 wn rfl rfl ?_; clear hm; intro x32 hm
      refine LW.shl hm wn rfl rfl rfl ?_; clear hm; intro x33 hm
      obtain ⟨y34, h38, hm_⟩ := bnd_some hm; clear hm; have hm := hm_; clear hm_
      refine LW.call kFn_16 (c_coresecmake_Some h38 cx.top) wn rfl rfl ?_
      rintro _ w35 ⟨oa39, c40, rfl, e36, s41, _⟩; refine ⟨_, rfl, ?_⟩
      replace cx := cx.step e36 rfl
      replace s22 := s22.step e36
      replace s25 := s25.step e36
      clear e36
      refine LW.assign wn rfl rfl ?_
      refine LW.nil ?_
      refine EW.seq_n ?_
      refine CW.seq ?_
      refine CW.region ?_
      refine LW.move wn rfl rfl ?_
      refine LW.move wn rfl rfl ?_
      refine LW.build (vs := [(0, .int .i64 ((k29 : Nat) : Int)), (1, .bool true), (2, .int .i64 x6)]) (cs := [.int .i64 ((k29 : Nat) : Int), .bool true, .int .i64 x6]) rfl ((kBuilt_26 _).trans rfl) wn rfl ?_
      refine LW.alloc 19 [.int .i64 0, .bool false, .int .i64 0] kZero_26 rfl cx.top wn rfl ?_
      intro g42 lab43 w44 e45 b46
      replace cx := cx.step e45 rfl
      replace s22 := s22.step e45
      replace s25 := s25.step e45
      replace s41 := s41.step e45
      clear e45
      refine LW.storeBn [.int .i64 ((k29 : Nat) : Int), .bool true, .int .i64 x6] [.int .i64 ((k29 : Nat) : Int), .bool true, .int .i64 x6] b46 cx.top rfl kAgg_26 rfl rfl rfl rfl wn rfl rfl ?_
      intro w47 e48 b49; clear b46
      replace cx := cx.step e48 rfl
      replace s22 := s22.step e48
      replace s25 := s25.step e48
      replace s41 := s41.step e48
      clear e48
      refine LW.nil ?_
      refine EW.seq_n ?_
      refine CW.seq ?_
      refine CW.region ?_
      refine LW.move wn rfl rfl ?_
      refine LW.loadBn [.int .i64 ((k29 : Nat) : Int), .bool true, .int .i64 x6] b49 kAgg_26 rfl rfl wn rfl rfl ?_
      refine LW.move wn rfl rfl ?_
      refine LW.move wn rfl rfl ?_
      obtain ⟨y50, h54, hm_⟩ := bnd_some hm; clear hm; have hm := hm_; clear hm_
      refine LW.call kFn_17 (c_block_Put h54 cx.top s22 SL.nil s41) wn rfl rfl ?_
      rintro _ w51 ⟨oa55, c56, oa58, c59, rfl, e52, s57, s60, _⟩; refine ⟨_, rfl, ?_⟩
      replace cx := cx.step e52 rfl
      replace s22 := s22.step e52
      replace s25 := s25.step e52
      replace s41 := s41.step e52
      replace b49 := b49.step e52 rfl
      clear e52
      refine LW.move wn rfl rfl ?_
      refine LW.extract wn rfl rfl rfl ?_
      refine LW.extract wn rfl rfl rfl ?_
      refine LW.extract wn rfl rfl rfl ?_
      refine LW.extract wn rfl rfl rfl ?_
      refine LW.assign wn rfl rfl ?_
      refine LW.assign wn rfl rfl ?_
      refine LW.assign wn rfl rfl ?_
      refine LW.assign wn rfl rfl ?_
      refine LW.nil ?_
      refine EW.seq_n ?_
      refine CW.seq ?_
      refine CW.region ?_
      refine LW.move wn rfl rfl ?_
      refine LW.loadBn [.int .i64 ((k29 : Nat) : Int), .bool true, .int .i64 x6] b49 kAgg_26 rfl rfl wn rfl rfl ?_
      refine LW.move wn rfl rfl ?_
      refine LW.move wn rfl rfl ?_
      obtain ⟨y61, h65, hm_⟩ := bnd_some hm; clear hm; have hm := hm_; clear hm_
      refine LW.call kFn_18 (c_coresecref18_Put h65 cx.top s25 SL.nil s41) wn rfl rfl ?_
      rintro _ w62 ⟨oa66, c67, oa69, c70, rfl, e63, s68, s71, _⟩; refine ⟨_, rfl, ?_⟩
      replace cx := cx.step e63 rfl
      replace s22 := s22.step e63
      replace s25 := s25.step e63
      replace s41 := s41.step e63
      replace b49 := b49.step e63 rfl
      replace s57 := s57.step e63
      replace s60 := s60.step e63
      clear e63
      refine LW.move wn rfl rfl ?_
      refine LW.extract wn rfl rfl rfl ?_
      refine LW.extract wn rfl rfl rfl ?_
      refine LW.extract wn rfl rfl rfl ?_
      refine LW.extract wn rfl rfl rfl ?_
      refine LW.assign wn rfl rfl ?_
      refine LW.assign wn rfl rfl ?_
      refine LW.assign wn rfl rfl ?_
      refine LW.assign wn rfl rfl ?_
      refine LW.nil ?_
      refine EW.seq_n ?_
      refine CW.seq ?_
      refine CW.seq ?_
      obtain ⟨y72, h73, hm_⟩ := bnd_some hm; clear hm
      refine CW.join_any (fun F_ w74 => ∃ (lab75 : Lab) , F_ = [(0, .int .i64 a0), (1, .int .i64 x6), (5, .slice oa20 x18.length c21), (6, .slice oa23 x19.length c24), (10, .slice oa55 y50.1.length c56), (13, .int .i64 y50.2.2.2), (14, .slice oa66 y61.1.length c67), (25, .int .i64 x10), (26, .int .i64 ((k29 : Nat) : Int)), (77, .bool y72)] ∧ Cx [] w lab w74 lab75 ∧ SL R_api_Partial lab75 w74 oa20 c21 x18 ∧ SL R_api_Partial lab75 w74 oa23 c24 x19 ∧ SL R_api_Partial lab75 w74 oa55 c56 y50.1 ∧ SL R_api_Partial lab75 w74 oa66 c67 y61.1 ∧ True) ?_ ?_
      · have hm := h73; clear h73
        refine CW.region ?_
        refine LW.move wn rfl rfl ?_
        refine LW.move wn rfl rfl ?_
        obtain ⟨y76, h80, hm_⟩ := bnd_some hm; clear hm; have hm := hm_; clear hm_
        refine LW.call kFn_19 (c_coresecref18_Same h80 cx.top s57 s68) wn rfl rfl ?_
        rintro _ w77 ⟨rfl, e78, _⟩; refine ⟨_, rfl, ?_⟩
        replace cx := cx.step e78 rfl
        replace s22 := s22.step e78
        replace s25 := s25.step e78
        replace s57 := s57.step e78
        replace s60 := s60.step e78
        replace s68 := s68.step e78
        replace s71 := s71.step e78
        clear e78
        refine LW.not hm wn rfl rfl ?_; clear hm; intro x81 hm
        refine LW.move wn rfl rfl ?_
        rcases Bool.eq_false_or_eq_true x81 with hb83 | hb83
        · replace hm := cond_t hm hb83
          refine LW.skip 61 rfl (bk rfl hb83) rfl rfl ?_
          refine LW.skip 61 rfl (bk rfl hb83) rfl rfl ?_
          refine LW.skip 61 rfl (bk rfl hb83) rfl rfl ?_
          refine LW.skip 61 rfl (bk rfl hb83) rfl rfl ?_
          refine LW.skip 61 rfl (bk rfl hb83) rfl rfl ?_
          refine LW.pick_t wn rfl (bk rfl hb83) rfl ?_
          refine LW.move wn rfl rfl ?_
          refine LW.skip 68 rfl rfl rfl rfl ?_
          refine LW.skip 68 rfl rfl rfl rfl ?_
          refine LW.skip 68 rfl rfl rfl rfl ?_
          refine LW.pick_t wn rfl rfl rfl ?_
          refine LW.move wn rfl rfl ?_
          refine LW.skip 73 rfl rfl rfl rfl ?_
          refine LW.skip 73 rfl rfl rfl rfl ?_
          refine LW.skip 73 rfl rfl rfl rfl ?_
          refine LW.pick_t wn rfl rfl rfl ?_
          refine LW.nil ?_
          obtain rfl := Option.some.inj hm
          refine EW.sub (G := [(0, .int .i64 a0), (1, .int .i64 x6), (5, .slice oa20 x18.length c21), (6, .slice oa23 x19.length c24), (10, .slice oa55 y50.1.length c56), (13, .int .i64 y50.2.2.2), (14, .slice oa66 y61.1.length c67), (25, .int .i64 x10), (26, .int .i64 ((k29 : Nat) : Int)), (77, .bool true)]) ⟨rfl, rfl, rfl, rfl, rfl, rfl, rfl, rfl, rfl, rfl, trivial⟩ ?_
          exact EW.join_n ⟨_, rfl, cx, s22, s25, s57, s68, trivial⟩
        · replace hm := cond_f hm hb83
          refine LW.move (ws 61 rfl (bk rfl hb83)) rfl rfl ?_
          refine LW.b2s (xs := y50.2.1) s60 kUnd_24 kUnd_5 kUnd_9 (ws 61 rfl (bk rfl hb83)) rfl rfl ?_
          refine LW.move (ws 61 rfl (bk rfl hb83)) rfl rfl ?_
          refine LW.b2s (xs := y61.2.1) s71 kUnd_24 kUnd_5 kUnd_9 (ws 61 rfl (bk rfl hb83)) rfl rfl ?_
          refine LW.nes hm (ws 61 rfl (bk rfl hb83)) rfl rfl rfl ?_; clear hm; intro x84 hm
          refine LW.pick_f wn rfl (bk rfl hb83) rfl ?_
          refine LW.move wn rfl rfl ?_
          rcases Bool.eq_false_or_eq_true x84 with hb86 | hb86
          · replace hm := cond_t hm hb86
            refine LW.skip 68 rfl (bk rfl hb86) rfl rfl ?_
            refine LW.skip 68 rfl (bk rfl hb86) rfl rfl ?_
            refine LW.skip 68 rfl (bk rfl hb86) rfl rfl ?_
            refine LW.pick_t wn rfl (bk rfl hb86) rfl ?_
            refine LW.move wn rfl rfl ?_
            refine LW.skip 73 rfl rfl rfl rfl ?_
            refine LW.skip 73 rfl rfl rfl rfl ?_
            refine LW.skip 73 rfl rfl rfl rfl ?_
            refine LW.pick_t wn rfl rfl rfl ?_
            refine LW.nil ?_
            obtain rfl := Option.some.inj hm
            refine EW.sub (G := [(0, .int .i64 a0), (1, .int .i64 x6), (5, .slice oa20 x18.length c21), (6, .slice oa23 x19.length c24), (10, .slice oa55 y50.1.length c56), (13, .int .i64 y50.2.2.2), (14, .slice oa66 y61.1.length c67), (25, .int .i64 x10), (26, .int .i64 ((k29 : Nat) : Int)), (77, .bool true)]) ⟨rfl, rfl, rfl, rfl, rfl, rfl, rfl, rfl, rfl, rfl, trivial⟩ ?_
            exact EW.join_n ⟨_, rfl, cx, s22, s25, s57, s68, trivial⟩
          · replace hm := cond_f hm hb86
            refine LW.move (ws 68 rfl (bk rfl hb86)) rfl rfl ?_
            refine LW.move (ws 68 rfl (bk rfl hb86)) rfl rfl ?_
            refine LW.neb hm kUnd_4 (ws 68 rfl (bk rfl hb86)) rfl rfl rfl ?_; clear hm; intro x87 hm
            refine LW.pick_f wn rfl (bk rfl hb86) rfl ?_
            refine LW.move wn rfl rfl ?_
            rcases Bool.eq_false_or_eq_true x87 with hb89 | hb89
            · replace hm := cond_t hm hb89
              refine LW.skip 73 rfl (bk rfl hb89) rfl rfl ?_
              refine LW.skip 73 rfl (bk rfl hb89) rfl rfl ?_
              refine LW.skip 73 rfl (bk rfl hb89) rfl rfl ?_
              refine LW.pick_t wn rfl (bk rfl hb89) rfl ?_
              refine LW.nil ?_
              obtain rfl := Option.some.inj hm
              refine EW.sub (G := [(0, .int .i64 a0), (1, .int .i64 x6), (5, .slice oa20 x18.length c21), (6, .slice oa23 x19.length c24), (10, .slice oa55 y50.1.length c56), (13, .int .i64 y50.2.2.2), (14, .slice oa66 y61.1.length c67), (25, .int .i64 x10), (26, .int .i64 ((k29 : Nat) : Int)), (77, .bool true)]) ⟨rfl, rfl, rfl, rfl, rfl, rfl, rfl, rfl, rfl, rfl, trivial⟩ ?_
              exact EW.join_n ⟨_, rfl, cx, s22, s25, s57, s68, trivial⟩
            · replace hm := cond_f hm hb89
              refine LW.move (ws 73 rfl (bk rfl hb89)) rfl rfl ?_
              refine LW.move (ws 73 rfl (bk rfl hb89)) rfl rfl ?_
              refine LW.neq hm (ws 73 rfl (bk rfl hb89)) rfl rfl rfl ?_; clear hm; intro x90 hm
              refine LW.pick_f wn rfl (bk rfl hb89) rfl ?_
              refine LW.nil ?_
              obtain rfl := Option.some.inj hm
              refine EW.sub (G := [(0, .int .i64 a0), (1, .int .i64 x6), (5, .slice oa20 x18.length c21), (6, .slice oa23 x19.length c24), (10, .slice oa55 y50.1.length c56), (13, .int .i64 y50.2.2.2), (14, .slice oa66 y61.1.length c67), (25, .int .i64 x10), (26, .int .i64 ((k29 : Nat) : Int)), (77, .bool x90)]) ⟨rfl, rfl, rfl, rfl, rfl, rfl, rfl, rfl, rfl, rfl, trivial⟩ ?_
              exact EW.join_n ⟨_, rfl, cx, s22, s25, s57, s68, trivial⟩
      · rintro _ w74 ⟨lab75, rfl, cx, s22, s25, s57, s68, _⟩
        have hm := hm_; clear hm_
        refine EW.seq_n ?_
        refine CW.cond (b := y72) rfl (fun hb91 => ?_) (fun hb91 => ?_)
        · replace hm := cond_t hm hb91
          refine CW.seq ?_
          refine CW.region ?_
          refine LW.assign wn rfl rfl ?_
          refine LW.nil ?_
          refine EW.seq_n ?_
          refine CW.ret ?_
          refine EW.seq_r ?_
          refine EW.block_r ?_
          refine EW.seq_r ?_
          refine EW.join_r ?_
          refine EW.block_r ?_
          refine EW.join_r ?_
          obtain rfl := Option.some.inj hm; have hm := hs14 _ rfl
          refine EW.seq_r ?_
          obtain rfl := Option.some.inj hm
          exact EW.ret1 rfl rfl ⟨rfl, (cx.ste t), trivial⟩
        · replace hm := cond_f hm hb91
          refine CW.skip ?_
          refine EW.seq_n ?_
          refine CW.seq ?_
          refine CW.region ?_
          refine LW.move wn rfl rfl ?_
          refine LW.eql hm wn rfl rfl rfl ?_; clear hm; intro x92 hm
          refine LW.nil ?_
          refine EW.seq_n ?_
          refine CW.cond (b := x92) rfl (fun hb93 => ?_) (fun hb93 => ?_)
          · replace hm := cond_t hm hb93
            refine CW.region ?_
            refine LW.move wn rfl rfl ?_
            refine LW.move wn rfl rfl ?_
            refine LW.assign wn rfl rfl ?_
            refine LW.assign wn rfl rfl ?_
            refine LW.nil ?_
            refine EW.block_n ?_
            refine EW.seq_n ?_
            refine CW.region ?_
            refine LW.add_lit (w64_succ' hlt2 hn_h31) wn rfl rfl rfl ?_
            refine LW.move wn rfl rfl ?_
            refine LW.nil ?_
            refine EW.sub (G := [(0, .int .i64 a0), (1, .int .i64 x6), (5, .slice oa55 y50.1.length c56), (6, .slice oa66 y61.1.length c67), (25, .int .i64 x10), (26, .int .i64 ((k29 + 1 : Nat) : Int))]) ⟨rfl, rfl, rfl, rfl, rfl, rfl, trivial⟩ ?_
            exact EW.join_n ⟨_, Nat.lt_succ_self _, _, k29 + 1, _, _, oa55, c56, oa66, c67, hd, rfl, cx, s57, s68, hm⟩
          · replace hm := cond_f hm hb93
            refine CW.skip ?_
            refine EW.block_n ?_
            refine EW.seq_n ?_
            refine CW.region ?_
            refine LW.add_lit (w64_succ' hlt2 hn_h31) wn rfl rfl rfl ?_
            refine LW.move wn rfl rfl ?_
            refine LW.nil ?_
            refine EW.sub (G := [(0, .int .i64 a0), (1, .int .i64 x6), (5, .slice oa20 x18.length c21), (6, .slice oa23 x19.length c24), (25, .int .i64 x10), (26, .int .i64 ((k29 + 1 : Nat) : Int))]) ⟨rfl, rfl, rfl, rfl, rfl, rfl, trivial⟩ ?_
            exact EW.join_n ⟨_, Nat.lt_succ_self _, _, k29 + 1, _, _, oa20, c21, oa23, c24, hd, rfl, cx, s22, s25, hm⟩
  · rintro _ w16 ⟨y11, lab17, hsr_, rfl, cx, _⟩
    have hm := hs15 _ hsr_; clear hsr_
    refine EW.seq_n ?_
    refine CW.seq ?_
    refine CW.region ?_
    obtain ⟨y94, h98, hm_⟩ := bnd_some hm; clear hm; have hm := hm_; clear hm_
    refine LW.call kFn_10 (c_coreseclaw18_awake h98 cx.top) wn rfl rfl ?_
    rintro _ w95 ⟨rfl, e96, _⟩; refine ⟨_, rfl, ?_⟩
    replace cx := cx.step e96 rfl
    clear e96
    refine LW.assign wn rfl rfl ?_
    refine LW.nil ?_
    refine EW.seq_n ?_
    refine CW.ret ?_
    obtain rfl := Option.some.inj hm
    exact EW.ret1 rfl rfl ⟨rfl, (cx.ste t), trivial⟩
end Go.Proofs.Ytaefnnamjphieaa
