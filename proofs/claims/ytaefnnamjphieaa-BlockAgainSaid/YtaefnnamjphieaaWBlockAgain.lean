/-
  The law BlockAgain: its model, and that it computes it. No condition but that the model has a value.
-/
import Derived.Test.YtaefnnamjphieaaPCoreseclaw18
namespace Go.Proofs.Ytaefnnamjphieaa
open Go.Gk Go.RowKit
set_option linter.unusedVariables false in
def m_coreseclaw18_BlockAgain_l1 (a0 : Int) (y1 : Int) : Nat → Nat → (List S_api_Partial) → Option (Bool ⊕ (List S_api_Partial))
    | 0, k30, x23 => some (Sum.inr x23)
    | n29 + 1, k30, x23 => letm (toU64 y1) fun x33 =>
  bnd (Gk.shl 16 (x33.toNat : Int)) fun x34 =>
  bnd (m_coresecmake_Some a0 x34) fun y35 =>
  bnd (m_block_Put x23 1 ([]) (S_api_Block.mk ((k30 : Nat) : Int) true y1) y35 0) fun y43 =>
  bnd (letm (y43.2.2.2 != 0) fun x58 =>
  (cond x58 (some (true))
   ((cond y43.2.2.1 (some (true))
   (letm ((y43.1.length : Int) != 1) fun x63 =>
  some (x63))))) : Option (Bool)) fun y54 =>
  (cond y54 (some (Sum.inl false))
   (m_coreseclaw18_BlockAgain_l1 a0 y1 n29 (k30 + 1) y43.1))
set_option linter.unusedVariables false in
def m_coreseclaw18_BlockAgain_l2 (a0 : Int) (y1 : Int) (y13 : (List S_api_Partial)) : List Int → Nat → Option (Bool ⊕ Unit)
    | [], k83 => some (Sum.inr ())
    | x85 :: rem84, k83 => letm (toU64 y1) fun x90 =>
  bnd (Gk.shl 16 (x90.toNat : Int)) fun x91 =>
  bnd (m_coresecmake_Some a0 x91) fun y92 =>
  bnd (m_block_Put y13 1 ([]) (S_api_Block.mk x85 true y1) y92 0) fun y100 =>
  letm (y100.2.2.2 == 15) fun x111 =>
  letm (decide (0 < x85)) fun x112 =>
  letm (x111 != x112) fun x113 =>
  (cond x113 (some (Sum.inl false))
   (m_coreseclaw18_BlockAgain_l2 a0 y1 y13 rem84 (k83 + 1)))
set_option linter.unusedVariables false in
def m_coreseclaw18_BlockAgain (a0 : Int) (a1 : Int) (a2 : Int) : Option (Bool) :=
  bnd (m_coresecmake_Mod a2 3) fun y1 =>
  bnd (m_coresecmake_Mod a1 4) fun y6 =>
  letm (w64 (1 + y6)) fun x11 =>
  letm (w64 (x11 + 1)) fun x12 =>
  bndS (bnd (rng x12) fun j31 =>
  m_coreseclaw18_BlockAgain_l1 a0 y1 j31 0 ([]) : Option (Bool ⊕ (List S_api_Partial))) (fun q => q) fun y13 =>
  letm (w64 (x11 - 1)) fun x65 =>
  letm (w64 (x11 + 2)) fun x66 =>
  bndS (m_coreseclaw18_BlockAgain_l2 a0 y1 y13 ([x11, x65, x66]) 0 : Option (Bool ⊕ Unit)) (fun q => q) fun y73 =>
  bnd (m_coreseclaw18_awake ) fun y115 =>
  some y115
set_option maxRecDepth 100000 in
set_option maxHeartbeats 2000000 in
theorem c_coreseclaw18_BlockAgain {lab : Lab} {w : World} {a0 : Int} {a1 : Int} {a2 : Int} {r : Bool} (hm : m_coreseclaw18_BlockAgain a0 a1 a2 = some r) (t : Top lab w) : Calls Try.prog 6 [.int .i64 a0, .int .i64 a1, .int .i64 a2].toArray w (fun e w' => e = .returned (.bool r) ∧ Ste lab 0 w lab w' ∧ True) := by
  refine enter Try.func6 rfl 89 rfl rfl ?_
  have cx := Cx.start t
  refine CW.sub (G := [(0, .int .i64 a0), (1, .int .i64 a1), (2, .int .i64 a2)]) ⟨rfl, rfl, rfl, trivial⟩ ?_
  unfold m_coreseclaw18_BlockAgain at hm
  refine CW.seq ?_
  refine CW.region ?_
  refine LW.assign wn rfl rfl ?_
  refine LW.nil ?_
  refine EW.seq_n ?_
  refine CW.seq ?_
  refine CW.region ?_
  refine LW.move wn rfl rfl ?_
  obtain ⟨y1, h5, hm_⟩ := bnd_some hm; clear hm; have hm := hm_; clear hm_
  refine LW.call kFn_13 (c_coresecmake_Mod h5 cx.top) wn rfl rfl ?_
  rintro _ w2 ⟨rfl, e3, _⟩; refine ⟨_, rfl, ?_⟩
  replace cx := cx.step e3 rfl
  clear e3
  refine LW.assign wn rfl rfl ?_
  refine LW.nil ?_
  refine EW.seq_n ?_
  refine CW.seq ?_
  refine CW.region ?_
  refine LW.move wn rfl rfl ?_
  obtain ⟨y6, h10, hm_⟩ := bnd_some hm; clear hm; have hm := hm_; clear hm_
  refine LW.call kFn_13 (c_coresecmake_Mod h10 cx.top) wn rfl rfl ?_
  rintro _ w7 ⟨rfl, e8, _⟩; refine ⟨_, rfl, ?_⟩
  replace cx := cx.step e8 rfl
  clear e8
  refine LW.add hm wn rfl rfl rfl ?_; clear hm; intro x11 hm
  refine LW.assign wn rfl rfl ?_
  refine LW.nil ?_
  refine EW.seq_n ?_
  refine CW.seq ?_
  refine CW.region ?_
  refine LW.assign wn rfl rfl ?_
  refine LW.nil ?_
  refine EW.seq_n ?_
  refine CW.seq ?_
  refine CW.seq ?_
  refine CW.region ?_
  refine LW.move wn rfl rfl ?_
  refine LW.add hm wn rfl rfl rfl ?_; clear hm; intro x12 hm
  refine LW.move wn rfl rfl ?_
  refine LW.nil ?_
  refine EW.seq_n ?_
  obtain ⟨s14, h15, hs16, hs17⟩ := bndS_some hm; clear hm
  refine CW.join_any (fun F_ w21 => ∃ (y13 : (List S_api_Partial)) (lab22 : Lab) (oa18 : Option Addr) (c19 : Nat), s14 = .inr y13 ∧ F_ = [(0, .int .i64 a0), (1, .int .i64 x11), (2, .int .i64 y1), (7, .slice oa18 y13.length c19)] ∧ Cx [] w lab w21 lab22 ∧ SL R_api_Partial lab22 w21 oa18 c19 y13 ∧ True) ?_ ?_
  · have hm := h15; clear h15
    refine CW.block ?_
    obtain ⟨j31, h32, hm_⟩ := bnd_some hm; clear hm; have hm := hm_; clear hm_; have hn_h32 := (rng_some h32).1; obtain rfl := (rng_some h32).2
    refine CW.sub (G := [(0, .int .i64 a0), (1, .int .i64 x11), (2, .int .i64 y1), (7, .slice none ([] : List S_api_Partial).length 0), (25, .int .i64 x12), (26, .int .i64 0)]) ⟨rfl, rfl, rfl, rfl, rfl, rfl, trivial⟩ ?_
    refine CW.loop (fun n29 F_ w27 => ∃ (lab28 : Lab) (k30 : Nat) (x23 : List S_api_Partial) (oa24 : Option Addr) (c25 : Nat), n29 + k30 = x12.toNat ∧ F_ = [(0, .int .i64 a0), (1, .int .i64 x11), (2, .int .i64 y1), (7, .slice oa24 x23.length c25), (25, .int .i64 x12), (26, .int .i64 ((k30 : Nat) : Int))] ∧ Cx [] w lab w27 lab28 ∧ SL R_api_Partial lab28 w27 oa24 c25 x23 ∧ m_coreseclaw18_BlockAgain_l1 a0 y1 n29 k30 x23 = some s14) _ ⟨_, 0, _, none, 0, rfl, rfl, cx, SL.nil, hm⟩ ?_
    rintro n29 _ w27 ⟨lab28, k30, x23, oa24, c25, hd, rfl, cx, s26, hm⟩
    rcases n29 with _ | n29
    · rw [m_coreseclaw18_BlockAgain_l1] at hm; have hlt := rng_stop hd
      refine CW.seq ?_
      refine CW.region ?_
      refine LW.lss_lit hlt wn rfl rfl rfl ?_
      refine LW.nil ?_
      refine EW.seq_n ?_
      refine CW.seq ?_
      refine CW.cond_f rfl ?_
      refine CW.exit ?_
      refine EW.seq_x ?_
      refine EW.join_x ?_
      refine EW.block_x ?_
      obtain rfl := Option.some.inj hm
      refine EW.sub (G := [(0, .int .i64 a0), (1, .int .i64 x11), (2, .int .i64 y1), (7, .slice oa24 x23.length c25)]) ⟨rfl, rfl, rfl, rfl, trivial⟩ ?_
      exact EW.join_n ⟨x23, _, oa24, c25, rfl, rfl, cx, s26, trivial⟩
    · rw [m_coreseclaw18_BlockAgain_l1] at hm; obtain ⟨hlt, hlt2, hd⟩ := rng_go hd
      refine CW.seq ?_
      refine CW.region ?_
      refine LW.lss_lit hlt wn rfl rfl rfl ?_
      refine LW.nil ?_
      refine EW.seq_n ?_
      refine CW.seq ?_
      refine CW.cond_t rfl ?_
      refine CW.skip ?_
      refine EW.seq_n ?_
      refine CW.seq ?_
      refine CW.block ?_
      refine CW.seq ?_
      refine CW.region ?_
      refine LW.move wn rfl rfl ?_
      refine LW.assign wn rfl rfl ?_
      refine LW.nil ?_
      refine EW.seq_n ?_
      refine CW.seq ?_
      refine CW.region ?_
      refine LW.move wn rfl rfl ?_
      refine LW.move wn rfl rfl ?_
      refine LW.move wn rfl rfl ?_
      refine LW.build (vs := [(0, .int .i64 ((k30 : Nat) : Int)), (1, .bool true), (2, .int .i64 y1)]) (cs := [.int .i64 ((k30 : Nat) : Int), .bool true, .int .i64 y1]) rfl ((kBuilt_26 _).trans rfl) wn rfl ?_
      refine LW.move wn rfl rfl ?_
      refine LW.move wn rfl rfl ?_
      refine LW.cvt_u64 hm kIs_3 kInt_37 wn rfl rfl ?_; clear hm; intro x33 hm
      refine LW.shl hm wn rfl rfl rfl ?_; clear hm; intro x34 hm
      obtain ⟨y35, h39, hm_⟩ := bnd_some hm; clear hm; have hm := hm_; clear hm_
      refine LW.call kFn_16 (c_coresecmake_Some h39 cx.top) wn rfl rfl ?_
      rintro _ w36 ⟨oa40, c41, rfl, e37, s42, _⟩; refine ⟨_, rfl, ?_⟩
      replace cx := cx.step e37 rfl
      replace s26 := s26.step e37
      clear e37
      obtain ⟨y43, h47, hm_⟩ := bnd_some hm; clear hm; have hm := hm_; clear hm_
      refine LW.call kFn_17 (c_block_Put h47 cx.top s26 SL.nil s42) wn rfl rfl ?_
      rintro _ w44 ⟨oa48, c49, oa51, c52, rfl, e45, s50, s53, _⟩; refine ⟨_, rfl, ?_⟩
      replace cx := cx.step e45 rfl
      replace s26 := s26.step e45
      replace s42 := s42.step e45
      clear e45
      refine LW.move wn rfl rfl ?_
      refine LW.extract wn rfl rfl rfl ?_
      refine LW.extract wn rfl rfl rfl ?_
      refine LW.extract wn rfl rfl rfl ?_
      refine LW.extract wn rfl rfl rfl ?_
      refine LW.assign wn rfl rfl ?_
      refine LW.assign wn rfl rfl ?_
      refine LW.assign wn rfl rfl ?_
      refine LW.assign wn rfl rfl ?_
      refine LW.nil ?_
      refine EW.seq_n ?_
      refine CW.seq ?_
      refine CW.seq ?_
      obtain ⟨y54, h55, hm_⟩ := bnd_some hm; clear hm
      refine CW.join_any (fun F_ w56 => ∃ (lab57 : Lab) , F_ = [(0, .int .i64 a0), (1, .int .i64 x11), (2, .int .i64 y1), (9, .slice oa48 y43.1.length c49), (25, .int .i64 x12), (26, .int .i64 ((k30 : Nat) : Int)), (53, .bool y54)] ∧ Cx [] w lab w56 lab57 ∧ SL R_api_Partial lab57 w56 oa48 c49 y43.1 ∧ True) ?_ ?_
      · have hm := h55; clear h55
        refine CW.region ?_
        refine LW.move wn rfl rfl ?_
        refine LW.neq hm wn rfl rfl rfl ?_; clear hm; intro x58 hm
        refine LW.move wn rfl rfl ?_
        rcases Bool.eq_false_or_eq_true x58 with hb60 | hb60
        · replace hm := cond_t hm hb60
          refine LW.skip 46 rfl (bk rfl hb60) rfl rfl ?_
          refine LW.pick_t wn rfl (bk rfl hb60) rfl ?_
          refine LW.move wn rfl rfl ?_
          refine LW.skip 49 rfl rfl rfl rfl ?_
          refine LW.skip 49 rfl rfl rfl rfl ?_
          refine LW.skip 49 rfl rfl rfl rfl ?_
          refine LW.pick_t wn rfl rfl rfl ?_
          refine LW.nil ?_
          obtain rfl := Option.some.inj hm
          refine EW.sub (G := [(0, .int .i64 a0), (1, .int .i64 x11), (2, .int .i64 y1), (9, .slice oa48 y43.1.length c49), (25, .int .i64 x12), (26, .int .i64 ((k30 : Nat) : Int)), (53, .bool true)]) ⟨rfl, rfl, rfl, rfl, rfl, rfl, rfl, trivial⟩ ?_
          exact EW.join_n ⟨_, rfl, cx, s50, trivial⟩
        · replace hm := cond_f hm hb60
          refine LW.move (ws 46 rfl (bk rfl hb60)) rfl rfl ?_
          refine LW.pick_f wn rfl (bk rfl hb60) rfl ?_
          refine LW.move wn rfl rfl ?_
          rcases Bool.eq_false_or_eq_true y43.2.2.1 with hb62 | hb62
          · replace hm := cond_t hm hb62
            refine LW.skip 49 rfl (bk rfl hb62) rfl rfl ?_
            refine LW.skip 49 rfl (bk rfl hb62) rfl rfl ?_
            refine LW.skip 49 rfl (bk rfl hb62) rfl rfl ?_
            refine LW.pick_t wn rfl (bk rfl hb62) rfl ?_
            refine LW.nil ?_
            obtain rfl := Option.some.inj hm
            refine EW.sub (G := [(0, .int .i64 a0), (1, .int .i64 x11), (2, .int .i64 y1), (9, .slice oa48 y43.1.length c49), (25, .int .i64 x12), (26, .int .i64 ((k30 : Nat) : Int)), (53, .bool true)]) ⟨rfl, rfl, rfl, rfl, rfl, rfl, rfl, trivial⟩ ?_
            exact EW.join_n ⟨_, rfl, cx, s50, trivial⟩
          · replace hm := cond_f hm hb62
            refine LW.move (ws 49 rfl (bk rfl hb62)) rfl rfl ?_
            refine LW.len kUnd_22 (ws 49 rfl (bk rfl hb62)) rfl rfl ?_
            refine LW.neq hm (ws 49 rfl (bk rfl hb62)) rfl rfl rfl ?_; clear hm; intro x63 hm
            refine LW.pick_f wn rfl (bk rfl hb62) rfl ?_
            refine LW.nil ?_
            obtain rfl := Option.some.inj hm
            refine EW.sub (G := [(0, .int .i64 a0), (1, .int .i64 x11), (2, .int .i64 y1), (9, .slice oa48 y43.1.length c49), (25, .int .i64 x12), (26, .int .i64 ((k30 : Nat) : Int)), (53, .bool x63)]) ⟨rfl, rfl, rfl, rfl, rfl, rfl, rfl, trivial⟩ ?_
            exact EW.join_n ⟨_, rfl, cx, s50, trivial⟩
      · rintro _ w56 ⟨lab57, rfl, cx, s50, _⟩
        have hm := hm_; clear hm_
        refine EW.seq_n ?_
        refine CW.cond (b := y54) rfl (fun hb64 => ?_) (fun hb64 => ?_)
        · replace hm := cond_t hm hb64
          refine CW.seq ?_
          refine CW.region ?_
          refine LW.assign wn rfl rfl ?_
          refine LW.nil ?_
          refine EW.seq_n ?_
          refine CW.ret ?_
          refine EW.seq_r ?_
          refine EW.block_r ?_
          refine EW.seq_r ?_
          refine EW.join_r ?_
          refine EW.block_r ?_
          refine EW.join_r ?_
          obtain rfl := Option.some.inj hm; have hm := hs16 _ rfl
          refine EW.seq_r ?_
          obtain rfl := Option.some.inj hm
          exact EW.ret1 rfl rfl ⟨rfl, (cx.ste t), trivial⟩
        · replace hm := cond_f hm hb64
          refine CW.skip ?_
          refine EW.seq_n ?_
          refine CW.region ?_
          refine LW.move wn rfl rfl ?_
          refine LW.assign wn rfl rfl ?_
          refine LW.nil ?_
          refine EW.block_n ?_
          refine EW.seq_n ?_
          refine CW.region ?_
          refine LW.add_lit (w64_succ' hlt2 hn_h32) wn rfl rfl rfl ?_
          refine LW.move wn rfl rfl ?_
          refine LW.nil ?_
          refine EW.sub (G := [(0, .int .i64 a0), (1, .int .i64 x11), (2, .int .i64 y1), (7, .slice oa48 y43.1.length c49), (25, .int .i64 x12), (26, .int .i64 ((k30 + 1 : Nat) : Int))]) ⟨rfl, rfl, rfl, rfl, rfl, rfl, trivial⟩ ?_
          exact EW.join_n ⟨_, Nat.lt_succ_self _, _, k30 + 1, _, oa48, c49, hd, rfl, cx, s50, hm⟩
  · rintro _ w21 ⟨y13, lab22, oa18, c19, hsr_, rfl, cx, s20, _⟩
    have hm := hs17 _ hsr_; clear hsr_
    refine EW.seq_n ?_
    refine CW.seq ?_
    refine CW.seq ?_
    refine CW.region ?_
    refine LW.move wn rfl rfl ?_
    refine LW.move wn rfl rfl ?_
    refine LW.sub' hm wn rfl rfl rfl ?_; clear hm; intro x65 hm
    refine LW.move wn rfl rfl ?_
    refine LW.add hm wn rfl rfl rfl ?_; clear hm; intro x66 hm
    refine LW.buildSlice (ρ := Rep.i64) (vs := [(0, .int .i64 x11), (1, .int .i64 x65), (2, .int .i64 x66)]) (css := [[.int .i64 x11], [.int .i64 x65], [.int .i64 x66]]) (xs := [x11, x65, x66]) rfl kSl_23 kZero_3 (by kernel_rfl) rfl rfl ⟨rfl, rfl, rfl, trivial⟩ cx.top wn rfl ?_
    intro oa67 c68 lab71 w72 e69 s70
    replace cx := cx.step e69 rfl
    replace s20 := s20.step e69
    clear e69
    refine LW.len kUnd_23 wn rfl rfl ?_
    refine LW.move wn rfl rfl ?_
    refine LW.nil ?_
    refine EW.seq_n ?_
    obtain ⟨s74, h75, hs76, hs77⟩ := bndS_some hm; clear hm
    refine CW.join_any (fun F_ w78 => ∃ (y73 : Unit) (lab79 : Lab) , s74 = .inr y73 ∧ F_ = [] ∧ Cx [] w lab w78 lab79 ∧ True) ?_ ?_
    · have hm := h75; clear h75
      refine CW.block ?_
      refine CW.sub (G := [(0, .int .i64 a0), (2, .int .i64 y1), (7, .slice oa18 y13.length c19), (61, .slice oa67 ([x11, x65, x66]).length c68), (62, .int .i64 (([x11, x65, x66]).length : Int)), (63, .int .i64 0)]) ⟨rfl, rfl, rfl, rfl, rfl, rfl, trivial⟩ ?_
      refine CW.loop (fun n82 F_ w80 => ∃ (lab81 : Lab) (k83 : Nat) (rem84 : List Int)  , n82 = rem84.length ∧ ([x11, x65, x66]).drop k83 = rem84 ∧ F_ = [(0, .int .i64 a0), (2, .int .i64 y1), (7, .slice oa18 y13.length c19), (61, .slice oa67 ([x11, x65, x66]).length c68), (62, .int .i64 (([x11, x65, x66]).length : Int)), (63, .int .i64 ((k83 : Nat) : Int))] ∧ Cx [] w lab w80 lab81 ∧ SL R_api_Partial lab81 w80 oa18 c19 y13 ∧ SL Rep.i64 lab81 w80 oa67 c68 ([x11, x65, x66]) ∧ m_coreseclaw18_BlockAgain_l2 a0 y1 y13 rem84 k83 = some s74) _ ⟨_, 0, [x11, x65, x66], rfl, rfl, rfl, cx, s20, s70, hm⟩ ?_
      rintro n82 _ w80 ⟨lab81, k83, rem84, rfl, hd, rfl, cx, s20, s70, hm⟩
      rcases rem84 with _ | ⟨x85, rem84⟩
      · rw [m_coreseclaw18_BlockAgain_l2] at hm; have hlt := drop_nil hd
        refine CW.seq ?_
        refine CW.region ?_
        refine LW.lss_lit hlt wn rfl rfl rfl ?_
        refine LW.nil ?_
        refine EW.seq_n ?_
        refine CW.seq ?_
        refine CW.cond_f rfl ?_
        refine CW.exit ?_
        refine EW.seq_x ?_
        refine EW.join_x ?_
        refine EW.block_x ?_
        obtain rfl := Option.some.inj hm
        refine EW.sub (G := []) trivial ?_
        exact EW.join_n ⟨(), _, rfl, rfl, cx, trivial⟩
      · rw [m_coreseclaw18_BlockAgain_l2] at hm; obtain ⟨hlt, hix, hd, hlt2⟩ := drop_cons hd
        refine CW.seq ?_
        refine CW.region ?_
        refine LW.lss_lit hlt wn rfl rfl rfl ?_
        refine LW.nil ?_
        refine EW.seq_n ?_
        refine CW.seq ?_
        refine CW.cond_t rfl ?_
        refine CW.skip ?_
        refine EW.seq_n ?_
        refine CW.seq ?_
        refine CW.block ?_
        refine CW.seq ?_
        refine CW.region ?_
        refine LW.index (bnd_ret hix) s70 kSl_23 wn rfl rfl rfl ?_; intro x_ p86 cs87 hx_ hr88 ha89; cases hx_
        obtain rfl : cs87 = [.int .i64 x85] := hr88
        refine LW.loadA1 (ha89.cell0 rfl) kOne_3 wn rfl rfl ?_
        refine LW.assign wn rfl rfl ?_
        refine LW.nil ?_
        refine EW.seq_n ?_
        refine CW.seq ?_
        refine CW.region ?_
        refine LW.move wn rfl rfl ?_
        refine LW.move wn rfl rfl ?_
        refine LW.move wn rfl rfl ?_
        refine LW.build (vs := [(0, .int .i64 x85), (1, .bool true), (2, .int .i64 y1)]) (cs := [.int .i64 x85, .bool true, .int .i64 y1]) rfl ((kBuilt_26 _).trans rfl) wn rfl ?_
        refine LW.move wn rfl rfl ?_
        refine LW.move wn rfl rfl ?_
        refine LW.cvt_u64 hm kIs_3 kInt_37 wn rfl rfl ?_; clear hm; intro x90 hm
        refine LW.shl hm wn rfl rfl rfl ?_; clear hm; intro x91 hm
        obtain ⟨y92, h96, hm_⟩ := bnd_some hm; clear hm; have hm := hm_; clear hm_
        refine LW.call kFn_16 (c_coresecmake_Some h96 cx.top) wn rfl rfl ?_
        rintro _ w93 ⟨oa97, c98, rfl, e94, s99, _⟩; refine ⟨_, rfl, ?_⟩
        replace cx := cx.step e94 rfl
        replace s20 := s20.step e94
        replace s70 := s70.step e94
        clear e94
        obtain ⟨y100, h104, hm_⟩ := bnd_some hm; clear hm; have hm := hm_; clear hm_
        refine LW.call kFn_17 (c_block_Put h104 cx.top s20 SL.nil s99) wn rfl rfl ?_
        rintro _ w101 ⟨oa105, c106, oa108, c109, rfl, e102, s107, s110, _⟩; refine ⟨_, rfl, ?_⟩
        replace cx := cx.step e102 rfl
        replace s20 := s20.step e102
        replace s70 := s70.step e102
        replace s99 := s99.step e102
        clear e102
        refine LW.move wn rfl rfl ?_
        refine LW.extract wn rfl rfl rfl ?_
        refine LW.extract wn rfl rfl rfl ?_
        refine LW.extract wn rfl rfl rfl ?_
        refine LW.extract wn rfl rfl rfl ?_
        refine LW.assign wn rfl rfl ?_
        refine LW.assign wn rfl rfl ?_
        refine LW.assign wn rfl rfl ?_
        refine LW.assign wn rfl rfl ?_
        refine LW.nil ?_
        refine EW.seq_n ?_
        refine CW.seq ?_
        refine CW.region ?_
        refine LW.move wn rfl rfl ?_
        refine LW.eql hm wn rfl rfl rfl ?_; clear hm; intro x111 hm
        refine LW.move wn rfl rfl ?_
        refine LW.gtr hm wn rfl rfl rfl ?_; clear hm; intro x112 hm
        refine LW.neb hm kUnd_4 wn rfl rfl rfl ?_; clear hm; intro x113 hm
        refine LW.nil ?_
        refine EW.seq_n ?_
        refine CW.cond (b := x113) rfl (fun hb114 => ?_) (fun hb114 => ?_)
        · replace hm := cond_t hm hb114
          refine CW.seq ?_
          refine CW.region ?_
          refine LW.assign wn rfl rfl ?_
          refine LW.nil ?_
          refine EW.seq_n ?_
          refine CW.ret ?_
          refine EW.block_r ?_
          refine EW.seq_r ?_
          refine EW.join_r ?_
          refine EW.block_r ?_
          refine EW.join_r ?_
          obtain rfl := Option.some.inj hm; have hm := hs76 _ rfl
          refine EW.seq_r ?_
          obtain rfl := Option.some.inj hm
          exact EW.ret1 rfl rfl ⟨rfl, (cx.ste t), trivial⟩
        · replace hm := cond_f hm hb114
          refine CW.skip ?_
          refine EW.block_n ?_
          refine EW.seq_n ?_
          refine CW.region ?_
          refine LW.add_lit (w64_succ hlt2 s70.le) wn rfl rfl rfl ?_
          refine LW.move wn rfl rfl ?_
          refine LW.nil ?_
          refine EW.sub (G := [(0, .int .i64 a0), (2, .int .i64 y1), (7, .slice oa18 y13.length c19), (61, .slice oa67 ([x11, x65, x66]).length c68), (62, .int .i64 (([x11, x65, x66]).length : Int)), (63, .int .i64 ((k83 + 1 : Nat) : Int))]) ⟨rfl, rfl, rfl, rfl, rfl, rfl, trivial⟩ ?_
          exact EW.join_n ⟨_, Nat.lt_succ_self _, _, k83 + 1, rem84, rfl, hd, rfl, cx, s20, s70, hm⟩
    · rintro _ w78 ⟨y73, lab79, hsr_, rfl, cx, _⟩
      have hm := hs77 _ hsr_; clear hsr_
      refine EW.seq_n ?_
      refine CW.seq ?_
      refine CW.region ?_
      obtain ⟨y115, h119, hm_⟩ := bnd_some hm; clear hm; have hm := hm_; clear hm_
      refine LW.call kFn_10 (c_coreseclaw18_awake h119 cx.top) wn rfl rfl ?_
      rintro _ w116 ⟨rfl, e117, _⟩; refine ⟨_, rfl, ?_⟩
      replace cx := cx.step e117 rfl
      clear e117
      refine LW.assign wn rfl rfl ?_
      refine LW.nil ?_
      refine EW.seq_n ?_
      refine CW.ret ?_
      obtain rfl := Option.some.inj hm
      exact EW.ret1 rfl rfl ⟨rfl, (cx.ste t), trivial⟩
end Go.Proofs.Ytaefnnamjphieaa
