/-
  The law BlockCuts: its model, and that it computes it. No condition but that the model has a value.
-/
import Derived.Test.YtaefnnamjphieaaPCoreseclaw18
namespace Go.Proofs.Ytaefnnamjphieaa
open Go.Gk Go.RowKit
set_option linter.unusedVariables false in
def m_coreseclaw18_BlockCuts_l1  : List S_t50 → Nat → Option (Bool ⊕ Unit)
    | [], k70 => some (Sum.inr ())
    | x72 :: rem71, k70 => bnd (m_block_Cut x72.b x72.n x72.s) fun y88 =>
  bnd (m_coresecref18_Cut x72.b x72.n x72.s) fun y96 =>
  bnd (letm (y88.1 != y96.1) fun x112 =>
  (cond x112 (some (true))
   (letm (y88.2.1 != y96.2.1) fun x134 =>
  (cond x134 (some (true))
   (letm (y88.2.2 != y96.2.2) fun x155 =>
  (cond x155 (some (true))
   (bnd (m_block_Blocks (x72.b.length : Int) x72.s) fun y179 =>
  bnd (m_coresecref18_Blocks (x72.b.length : Int) x72.s) fun y194 =>
  letm (y179 != y194) fun x201 =>
  (cond x201 (some (true))
   (bnd (m_block_Blocks x72.n x72.s) fun y220 =>
  bnd (m_coresecref18_Blocks x72.n x72.s) fun y233 =>
  letm (y220 != y233) fun x240 =>
  some (x240))))))))) : Option (Bool)) fun y104 =>
  (cond y104 (some (Sum.inl false))
   (m_coreseclaw18_BlockCuts_l1  rem71 (k70 + 1)))
set_option linter.unusedVariables false in
def m_coreseclaw18_BlockCuts (a0 : List UInt8) (a1 : Int) (a2 : Int) (a3 : Int) : Option (Bool) :=
  letm (decide (3000 < (a0.length : Int))) fun x4 =>
  (cond x4 (bnd (m_coreseclaw18_awake ) fun y6 =>
  some y6)
   (bnd (m_coresecmake_Mod a3 20) fun y11 =>
  letm (w64 (16 * y11)) fun x16 =>
  bnd (Gk.quo a3 20) fun x17 =>
  bnd (m_coresecmake_Mod x17 3) fun y18 =>
  letm (w64 (x16 + y18)) fun x23 =>
  bnd (m_coresecmake_Some a3 x23) fun y24 =>
  bnd (m_coresecmake_Mod a1 6) fun y32 =>
  bnd (m_coresecmake_Mod a2 9) fun y37 =>
  letm (w64 (y37 - 1)) fun x42 =>
  bnd (m_coresecmake_Mod a1 23) fun y43 =>
  letm (w64 (y43 - 1)) fun x48 =>
  bnd (m_coresecmake_Mod a2 3) fun y49 =>
  bndS (m_coreseclaw18_BlockCuts_l1  ([(S_t50.mk a0 a1 a2), (S_t50.mk a0 y32 x42), (S_t50.mk y24 x48 y49)]) 0 : Option (Bool ⊕ Unit)) (fun q => q) fun y60 =>
  bnd (m_coreseclaw18_awake ) fun y247 =>
  some y247))
set_option maxRecDepth 100000 in
set_option maxHeartbeats 2000000 in
theorem c_coreseclaw18_BlockCuts {lab : Lab} {w : World} {a0 : List UInt8} {a1 : Int} {a2 : Int} {a3 : Int} {r : Bool} (hm : m_coreseclaw18_BlockCuts a0 a1 a2 a3 = some r) (t : Top lab w) {oa1 : Option Addr} {c2 : Nat} (s3 : SL Rep.u8 lab w oa1 c2 a0) : Calls Try.prog 7 [.slice oa1 a0.length c2, .int .i64 a1, .int .i64 a2, .int .i64 a3].toArray w (fun e w' => e = .returned (.bool r) ∧ Ste lab 0 w lab w' ∧ True) := by
  refine enter Try.func7 rfl 122 rfl rfl ?_
  have cx := Cx.start t
  replace s3 := s3.keep Keeps.lin
  refine CW.sub (G := [(0, .slice oa1 a0.length c2), (1, .int .i64 a1), (2, .int .i64 a2), (3, .int .i64 a3)]) ⟨rfl, rfl, rfl, rfl, trivial⟩ ?_
  unfold m_coreseclaw18_BlockCuts at hm
  refine CW.seq ?_
  refine CW.region ?_
  refine LW.assign wn rfl rfl ?_
  refine LW.nil ?_
  refine EW.seq_n ?_
  refine CW.seq ?_
  refine CW.seq ?_
  refine CW.region ?_
  refine LW.move wn rfl rfl ?_
  refine LW.len kUnd_24 wn rfl rfl ?_
  refine LW.gtr hm wn rfl rfl rfl ?_; clear hm; intro x4 hm
  refine LW.nil ?_
  refine EW.seq_n ?_
  refine CW.cond (b := x4) rfl (fun hb5 => ?_) (fun hb5 => ?_)
  · replace hm := cond_t hm hb5
    refine CW.seq ?_
    refine CW.region ?_
    obtain ⟨y6, h10, hm_⟩ := bnd_some hm; clear hm; have hm := hm_; clear hm_
    refine LW.call kFn_10 (c_coreseclaw18_awake h10 cx.top) wn rfl rfl ?_
    rintro _ w7 ⟨rfl, e8, _⟩; refine ⟨_, rfl, ?_⟩
    replace cx := cx.step e8 rfl
    replace s3 := s3.step e8
    clear e8
    refine LW.assign wn rfl rfl ?_
    refine LW.nil ?_
    refine EW.seq_n ?_
    refine CW.ret ?_
    refine EW.seq_r ?_
    obtain rfl := Option.some.inj hm
    exact EW.ret1 rfl rfl ⟨rfl, (cx.ste t), trivial⟩
  · replace hm := cond_f hm hb5
    refine CW.skip ?_
    refine EW.seq_n ?_
    refine CW.seq ?_
    refine CW.region ?_
    refine LW.move wn rfl rfl ?_
    refine LW.move wn rfl rfl ?_
    obtain ⟨y11, h15, hm_⟩ := bnd_some hm; clear hm; have hm := hm_; clear hm_
    refine LW.call kFn_13 (c_coresecmake_Mod h15 cx.top) wn rfl rfl ?_
    rintro _ w12 ⟨rfl, e13, _⟩; refine ⟨_, rfl, ?_⟩
    replace cx := cx.step e13 rfl
    replace s3 := s3.step e13
    clear e13
    refine LW.mul hm wn rfl rfl rfl ?_; clear hm; intro x16 hm
    refine LW.move wn rfl rfl ?_
    refine LW.quo hm wn rfl rfl rfl ?_; clear hm; intro x17 hm
    obtain ⟨y18, h22, hm_⟩ := bnd_some hm; clear hm; have hm := hm_; clear hm_
    refine LW.call kFn_13 (c_coresecmake_Mod h22 cx.top) wn rfl rfl ?_
    rintro _ w19 ⟨rfl, e20, _⟩; refine ⟨_, rfl, ?_⟩
    replace cx := cx.step e20 rfl
    replace s3 := s3.step e20
    clear e20
    refine LW.add hm wn rfl rfl rfl ?_; clear hm; intro x23 hm
    obtain ⟨y24, h28, hm_⟩ := bnd_some hm; clear hm; have hm := hm_; clear hm_
    refine LW.call kFn_16 (c_coresecmake_Some h28 cx.top) wn rfl rfl ?_
    rintro _ w25 ⟨oa29, c30, rfl, e26, s31, _⟩; refine ⟨_, rfl, ?_⟩
    replace cx := cx.step e26 rfl
    replace s3 := s3.step e26
    clear e26
    refine LW.assign wn rfl rfl ?_
    refine LW.nil ?_
    refine EW.seq_n ?_
    refine CW.seq ?_
    refine CW.seq ?_
    refine CW.region ?_
    refine LW.move wn rfl rfl ?_
    refine LW.move wn rfl rfl ?_
    refine LW.move wn rfl rfl ?_
    refine LW.build (vs := [(0, .slice oa1 a0.length c2), (1, .int .i64 a1), (2, .int .i64 a2)]) (cs := [.slice oa1 a0.length c2, .int .i64 a1, .int .i64 a2]) rfl ((kBuilt_50 _).trans rfl) wn rfl ?_
    refine LW.move wn rfl rfl ?_
    refine LW.move wn rfl rfl ?_
    obtain ⟨y32, h36, hm_⟩ := bnd_some hm; clear hm; have hm := hm_; clear hm_
    refine LW.call kFn_13 (c_coresecmake_Mod h36 cx.top) wn rfl rfl ?_
    rintro _ w33 ⟨rfl, e34, _⟩; refine ⟨_, rfl, ?_⟩
    replace cx := cx.step e34 rfl
    replace s3 := s3.step e34
    replace s31 := s31.step e34
    clear e34
    refine LW.move wn rfl rfl ?_
    obtain ⟨y37, h41, hm_⟩ := bnd_some hm; clear hm; have hm := hm_; clear hm_
    refine LW.call kFn_13 (c_coresecmake_Mod h41 cx.top) wn rfl rfl ?_
    rintro _ w38 ⟨rfl, e39, _⟩; refine ⟨_, rfl, ?_⟩
    replace cx := cx.step e39 rfl
    replace s3 := s3.step e39
    replace s31 := s31.step e39
    clear e39
    refine LW.sub' hm wn rfl rfl rfl ?_; clear hm; intro x42 hm
    refine LW.build (vs := [(0, .slice oa1 a0.length c2), (1, .int .i64 y32), (2, .int .i64 x42)]) (cs := [.slice oa1 a0.length c2, .int .i64 y32, .int .i64 x42]) rfl ((kBuilt_50 _).trans rfl) wn rfl ?_
    refine LW.move wn rfl rfl ?_
    refine LW.move wn rfl rfl ?_
    obtain ⟨y43, h47, hm_⟩ := bnd_some hm; clear hm; have hm := hm_; clear hm_
    refine LW.call kFn_13 (c_coresecmake_Mod h47 cx.top) wn rfl rfl ?_
    rintro _ w44 ⟨rfl, e45, _⟩; refine ⟨_, rfl, ?_⟩
    replace cx := cx.step e45 rfl
    replace s3 := s3.step e45
    replace s31 := s31.step e45
    clear e45
    refine LW.sub' hm wn rfl rfl rfl ?_; clear hm; intro x48 hm
    refine LW.move wn rfl rfl ?_
    obtain ⟨y49, h53, hm_⟩ := bnd_some hm; clear hm; have hm := hm_; clear hm_
    refine LW.call kFn_13 (c_coresecmake_Mod h53 cx.top) wn rfl rfl ?_
    rintro _ w50 ⟨rfl, e51, _⟩; refine ⟨_, rfl, ?_⟩
    replace cx := cx.step e51 rfl
    replace s3 := s3.step e51
    replace s31 := s31.step e51
    clear e51
    refine LW.build (vs := [(0, .slice oa29 y24.length c30), (1, .int .i64 x48), (2, .int .i64 y49)]) (cs := [.slice oa29 y24.length c30, .int .i64 x48, .int .i64 y49]) rfl ((kBuilt_50 _).trans rfl) wn rfl ?_
    refine LW.buildSlice (ρ := R_t50) (vs := [(0, .agg ([.slice oa1 a0.length c2, .int .i64 a1, .int .i64 a2] : List Value).toArray), (1, .agg ([.slice oa1 a0.length c2, .int .i64 y32, .int .i64 x42] : List Value).toArray), (2, .agg ([.slice oa29 y24.length c30, .int .i64 x48, .int .i64 y49] : List Value).toArray)]) (css := [[.slice oa1 a0.length c2, .int .i64 a1, .int .i64 a2], [.slice oa1 a0.length c2, .int .i64 y32, .int .i64 x42], [.slice oa29 y24.length c30, .int .i64 x48, .int .i64 y49]]) (xs := [(S_t50.mk a0 a1 a2), (S_t50.mk a0 y32 x42), (S_t50.mk y24 x48 y49)]) rfl kSl_51 kZero_50 (by kernel_rfl) rfl rfl ⟨⟨_, _, rfl, s3, trivial⟩, ⟨_, _, rfl, s3, trivial⟩, ⟨_, _, rfl, s31, trivial⟩, trivial⟩ cx.top wn rfl ?_
    intro oa54 c55 lab58 w59 e56 s57
    replace cx := cx.step e56 rfl
    replace s3 := s3.step e56
    replace s31 := s31.step e56
    clear e56
    refine LW.len kUnd_51 wn rfl rfl ?_
    refine LW.move wn rfl rfl ?_
    refine LW.nil ?_
    refine EW.seq_n ?_
    obtain ⟨s61, h62, hs63, hs64⟩ := bndS_some hm; clear hm
    refine CW.join_any (fun F_ w65 => ∃ (y60 : Unit) (lab66 : Lab) , s61 = .inr y60 ∧ F_ = [] ∧ Cx [] w lab w65 lab66 ∧ True) ?_ ?_
    · have hm := h62; clear h62
      refine CW.block ?_
      refine CW.sub (G := [(49, .slice oa54 ([(S_t50.mk a0 a1 a2), (S_t50.mk a0 y32 x42), (S_t50.mk y24 x48 y49)]).length c55), (50, .int .i64 (([(S_t50.mk a0 a1 a2), (S_t50.mk a0 y32 x42), (S_t50.mk y24 x48 y49)]).length : Int)), (51, .int .i64 0)]) ⟨rfl, rfl, rfl, trivial⟩ ?_
      refine CW.loop (fun n69 F_ w67 => ∃ (lab68 : Lab) (k70 : Nat) (rem71 : List S_t50)  , n69 = rem71.length ∧ ([(S_t50.mk a0 a1 a2), (S_t50.mk a0 y32 x42), (S_t50.mk y24 x48 y49)]).drop k70 = rem71 ∧ F_ = [(49, .slice oa54 ([(S_t50.mk a0 a1 a2), (S_t50.mk a0 y32 x42), (S_t50.mk y24 x48 y49)]).length c55), (50, .int .i64 (([(S_t50.mk a0 a1 a2), (S_t50.mk a0 y32 x42), (S_t50.mk y24 x48 y49)]).length : Int)), (51, .int .i64 ((k70 : Nat) : Int))] ∧ Cx [] w lab w67 lab68 ∧ SL R_t50 lab68 w67 oa54 c55 ([(S_t50.mk a0 a1 a2), (S_t50.mk a0 y32 x42), (S_t50.mk y24 x48 y49)]) ∧ m_coreseclaw18_BlockCuts_l1  rem71 k70 = some s61) _ ⟨_, 0, [(S_t50.mk a0 a1 a2), (S_t50.mk a0 y32 x42), (S_t50.mk y24 x48 y49)], rfl, rfl, rfl, cx, s57, hm⟩ ?_
      rintro n69 _ w67 ⟨lab68, k70, rem71, rfl, hd, rfl, cx, s57, hm⟩
      rcases rem71 with _ | ⟨x72, rem71⟩
      · rw [m_coreseclaw18_BlockCuts_l1] at hm; have hlt := drop_nil hd
        refine CW.seq ?_
        refine CW.region ?_
        refine LW.lss_lit hlt wn rfl rfl rfl ?_
        refine LW.nil ?_
        refine EW.seq_n ?_
        refine CW.seq ?_
        refine CW.cond_f rfl ?_
        refine CW.exit ?_
        refine EW.seq_x ?_
        refine EW.join_x ?_
        refine EW.block_x ?_
        obtain rfl := Option.some.inj hm
        refine EW.sub (G := []) trivial ?_
        exact EW.join_n ⟨(), _, rfl, rfl, cx, trivial⟩
      · rw [m_coreseclaw18_BlockCuts_l1] at hm; obtain ⟨hlt, hix, hd, hlt2⟩ := drop_cons hd
        refine CW.seq ?_
        refine CW.region ?_
        refine LW.lss_lit hlt wn rfl rfl rfl ?_
        refine LW.nil ?_
        refine EW.seq_n ?_
        refine CW.seq ?_
        refine CW.cond_t rfl ?_
        refine CW.skip ?_
        refine EW.seq_n ?_
        refine CW.seq ?_
        refine CW.block ?_
        refine CW.seq ?_
        refine CW.region ?_
        refine LW.index (bnd_ret hix) s57 kSl_51 wn rfl rfl rfl ?_; intro x_ p73 cs74 hx_ hr75 ha76; cases hx_
        obtain ⟨oa77, c78, rfl, s79, _⟩ := hr75
        refine LW.loadAn ha76 kAgg_50 rfl wn rfl rfl ?_
        refine LW.alloc 21 [.slice none 0 0, .int .i64 0, .int .i64 0] kZero_50 rfl cx.top wn rfl ?_
        intro g80 lab81 w82 e83 b84
        replace cx := cx.step e83 rfl
        replace s57 := s57.step e83
        replace ha76 := ha76.step e83
        replace s79 := s79.step e83
        clear e83
        refine LW.storeBn [.slice oa77 x72.b.length c78, .int .i64 x72.n, .int .i64 x72.s] [.slice oa77 x72.b.length c78, .int .i64 x72.n, .int .i64 x72.s] b84 cx.top rfl kAgg_50 rfl rfl rfl rfl wn rfl rfl ?_
        intro w85 e86 b87; clear b84
        replace cx := cx.step e86 rfl
        replace s79 := s79.step e86
        replace s57 := s57.step e86
        replace ha76 := ha76.step e86
        clear e86
        refine LW.nil ?_
        refine EW.seq_n ?_
        refine CW.seq ?_
        refine CW.region ?_
        refine LW.fldB 0 kFld_50_0 rfl wn rfl rfl ?_
        refine LW.loadB1 b87 kOne_24 rfl wn rfl rfl ?_
        refine LW.fldB 1 kFld_50_1 rfl wn rfl rfl ?_
        refine LW.loadB1 b87 kOne_3 rfl wn rfl rfl ?_
        refine LW.fldB 2 kFld_50_2 rfl wn rfl rfl ?_
        refine LW.loadB1 b87 kOne_3 rfl wn rfl rfl ?_
        obtain ⟨y88, h92, hm_⟩ := bnd_some hm; clear hm; have hm := hm_; clear hm_
        refine LW.call kFn_20 (c_block_Cut h92 cx.top s79) wn rfl rfl ?_
        rintro _ w89 ⟨oa93, c94, rfl, e90, s95, _⟩; refine ⟨_, rfl, ?_⟩
        replace cx := cx.step e90 rfl
        replace b87 := b87.step e90 rfl
        replace s79 := s79.step e90
        replace s57 := s57.step e90
        clear e90
        refine LW.move wn rfl rfl ?_
        refine LW.extract wn rfl rfl rfl ?_
        refine LW.extract wn rfl rfl rfl ?_
        refine LW.extract wn rfl rfl rfl ?_
        refine LW.assign wn rfl rfl ?_
        refine LW.assign wn rfl rfl ?_
        refine LW.assign wn rfl rfl ?_
        refine LW.nil ?_
        refine EW.seq_n ?_
        refine CW.seq ?_
        refine CW.region ?_
        refine LW.fldB 0 kFld_50_0 rfl wn rfl rfl ?_
        refine LW.loadB1 b87 kOne_24 rfl wn rfl rfl ?_
        refine LW.fldB 1 kFld_50_1 rfl wn rfl rfl ?_
        refine LW.loadB1 b87 kOne_3 rfl wn rfl rfl ?_
        refine LW.fldB 2 kFld_50_2 rfl wn rfl rfl ?_
        refine LW.loadB1 b87 kOne_3 rfl wn rfl rfl ?_
        obtain ⟨y96, h100, hm_⟩ := bnd_some hm; clear hm; have hm := hm_; clear hm_
        refine LW.call kFn_22 (c_coresecref18_Cut h100 cx.top s79) wn rfl rfl ?_
        rintro _ w97 ⟨oa101, c102, rfl, e98, s103, _⟩; refine ⟨_, rfl, ?_⟩
        replace cx := cx.step e98 rfl
        replace b87 := b87.step e98 rfl
        replace s79 := s79.step e98
        replace s95 := s95.step e98
        replace s57 := s57.step e98
        clear e98
        refine LW.move wn rfl rfl ?_
        refine LW.extract wn rfl rfl rfl ?_
        refine LW.extract wn rfl rfl rfl ?_
        refine LW.extract wn rfl rfl rfl ?_
        refine LW.assign wn rfl rfl ?_
        refine LW.assign wn rfl rfl ?_
        refine LW.assign wn rfl rfl ?_
        refine LW.nil ?_
        refine EW.seq_n ?_
        refine CW.seq ?_
        obtain ⟨y104, h105, hm_⟩ := bnd_some hm; clear hm
        refine CW.join_any (fun F_ w106 => ∃ (lab107 : Lab) , F_ = [(49, .slice oa54 ([(S_t50.mk a0 a1 a2), (S_t50.mk a0 y32 x42), (S_t50.mk y24 x48 y49)]).length c55), (50, .int .i64 (([(S_t50.mk a0 a1 a2), (S_t50.mk a0 y32 x42), (S_t50.mk y24 x48 y49)]).length : Int)), (51, .int .i64 ((k70 : Nat) : Int)), (119, .bool y104)] ∧ Cx [] w lab w106 lab107 ∧ SL R_t50 lab107 w106 oa54 c55 ([(S_t50.mk a0 a1 a2), (S_t50.mk a0 y32 x42), (S_t50.mk y24 x48 y49)]) ∧ True) ?_ ?_
        · have hm := h105; clear h105
          obtain ⟨x112, hx_x112, hm_⟩ := letm_some hm; clear hm; have hm := hm_; clear hm_
          rcases Bool.eq_false_or_eq_true x112 with hb114 | hb114
          · replace hm := cond_t hm hb114
            refine CW.sub (G := [(11, .pointer (some ⟨g80, 0, none⟩)), (12, .slice oa93 y88.1.length c94), (13, .bool y88.2.1), (14, .int .i64 y88.2.2), (15, .slice oa101 y96.1.length c102), (16, .bool y96.2.1), (17, .int .i64 y96.2.2), (49, .slice oa54 ([(S_t50.mk a0 a1 a2), (S_t50.mk a0 y32 x42), (S_t50.mk y24 x48 y49)]).length c55), (50, .int .i64 (([(S_t50.mk a0 a1 a2), (S_t50.mk a0 y32 x42), (S_t50.mk y24 x48 y49)]).length : Int)), (51, .int .i64 ((k70 : Nat) : Int))]) ⟨rfl, rfl, rfl, rfl, rfl, rfl, rfl, rfl, rfl, rfl, trivial⟩ ?_
            refine CW.drawL (fun i_ => []) (fun i_ => by (try dsimp only); (repeat' split) <;> rfl) kMix_ 43 (by kernel_rfl) cx.top ?_
            intro w126 e127
            replace cx := cx.step e127 rfl
            replace b87 := b87.step e127 rfl
            replace s79 := s79.step e127
            replace s95 := s95.step e127
            replace s103 := s103.step e127
            replace s57 := s57.step e127
            clear e127
            refine ⟨[(fun L_ lab_ w_ v_ => v_ = .slice oa93 y88.1.length c94 ∧ True),
    (fun L_ lab_ w_ v_ => v_ = strV y88.1 ∧ True),
    (fun L_ lab_ w_ v_ => v_ = .slice oa101 y96.1.length c102 ∧ True),
    (fun L_ lab_ w_ v_ => v_ = strV y96.1 ∧ True),
    (fun L_ lab_ w_ v_ => v_ = .bool x112 ∧ True),
    (fun L_ lab_ w_ v_ => v_ = .bool x112 ∧ True),
    (fun L_ lab_ w_ v_ => v_ = undef ∧ True),
    (fun L_ lab_ w_ v_ => v_ = undef ∧ True),
    (fun L_ lab_ w_ v_ => v_ = undef ∧ True),
    (fun L_ lab_ w_ v_ => v_ = .bool true ∧ True),
    (fun L_ lab_ w_ v_ => v_ = .bool true ∧ True),
    (fun L_ lab_ w_ v_ => v_ = undef ∧ True),
    (fun L_ lab_ w_ v_ => v_ = undef ∧ True),
    (fun L_ lab_ w_ v_ => v_ = undef ∧ True),
    (fun L_ lab_ w_ v_ => v_ = .bool true ∧ True),
    (fun L_ lab_ w_ v_ => v_ = .bool true ∧ True),
    (fun L_ lab_ w_ v_ => v_ = undef ∧ True),
    (fun L_ lab_ w_ v_ => v_ = undef ∧ True),
    (fun L_ lab_ w_ v_ => v_ = undef ∧ True),
    (fun L_ lab_ w_ v_ => v_ = undef ∧ True),
    (fun L_ lab_ w_ v_ => v_ = undef ∧ True),
    (fun L_ lab_ w_ v_ => v_ = undef ∧ True),
    (fun L_ lab_ w_ v_ => v_ = undef ∧ True),
    (fun L_ lab_ w_ v_ => v_ = undef ∧ True),
    (fun L_ lab_ w_ v_ => v_ = undef ∧ True),
    (fun L_ lab_ w_ v_ => v_ = undef ∧ True),
    (fun L_ lab_ w_ v_ => v_ = undef ∧ True),
    (fun L_ lab_ w_ v_ => v_ = undef ∧ True),
    (fun L_ lab_ w_ v_ => v_ = undef ∧ True),
    (fun L_ lab_ w_ v_ => v_ = .bool true ∧ True),
    (fun L_ lab_ w_ v_ => v_ = .bool true ∧ True),
    (fun L_ lab_ w_ v_ => v_ = undef ∧ True),
    (fun L_ lab_ w_ v_ => v_ = undef ∧ True),
    (fun L_ lab_ w_ v_ => v_ = undef ∧ True),
    (fun L_ lab_ w_ v_ => v_ = undef ∧ True),
    (fun L_ lab_ w_ v_ => v_ = undef ∧ True),
    (fun L_ lab_ w_ v_ => v_ = undef ∧ True),
    (fun L_ lab_ w_ v_ => v_ = undef ∧ True),
    (fun L_ lab_ w_ v_ => v_ = undef ∧ True),
    (fun L_ lab_ w_ v_ => v_ = undef ∧ True),
    (fun L_ lab_ w_ v_ => v_ = undef ∧ True),
    (fun L_ lab_ w_ v_ => v_ = undef ∧ True),
    (fun L_ lab_ w_ v_ => v_ = .bool true ∧ True)], (fun L_ lab_ w_ => Cx [] w lab w_ lab_ ∧ Box lab_ w_ 21 g80 50 [.slice oa77 x72.b.length c78, .int .i64 x72.n, .int .i64 x72.s] ∧ SL Rep.u8 lab_ w_ oa77 c78 x72.b ∧ SL Rep.u8 lab_ w_ oa93 c94 y88.1 ∧ SL Rep.u8 lab_ w_ oa101 c102 y96.1 ∧ SL R_t50 lab_ w_ oa54 c55 ([(S_t50.mk a0 a1 a2), (S_t50.mk a0 y32 x42), (S_t50.mk y24 x48 y49)]) ∧ True), ?_, ⟨cx, b87, s79, s95, s103, s57, trivial⟩, ?_, ?_⟩
            · exact ⟨by rintro i_ L_ lab_ w_ lab2_ w2_ v_ hne_ hd_ hk_ hp_ ⟨hv_, _⟩; exact ⟨hv_, trivial⟩, by rintro i_ L_ lab_ w_ lab2_ w2_ v_ hne_ hd_ hk_ hp_ ⟨hv_, _⟩; exact ⟨hv_, trivial⟩, by rintro i_ L_ lab_ w_ lab2_ w2_ v_ hne_ hd_ hk_ hp_ ⟨hv_, _⟩; exact ⟨hv_, trivial⟩, by rintro i_ L_ lab_ w_ lab2_ w2_ v_ hne_ hd_ hk_ hp_ ⟨hv_, _⟩; exact ⟨hv_, trivial⟩, by rintro i_ L_ lab_ w_ lab2_ w2_ v_ hne_ hd_ hk_ hp_ ⟨hv_, _⟩; exact ⟨hv_, trivial⟩, by rintro i_ L_ lab_ w_ lab2_ w2_ v_ hne_ hd_ hk_ hp_ ⟨hv_, _⟩; exact ⟨hv_, trivial⟩, by rintro i_ L_ lab_ w_ lab2_ w2_ v_ hne_ hd_ hk_ hp_ ⟨hv_, _⟩; exact ⟨hv_, trivial⟩, by rintro i_ L_ lab_ w_ lab2_ w2_ v_ hne_ hd_ hk_ hp_ ⟨hv_, _⟩; exact ⟨hv_, trivial⟩, by rintro i_ L_ lab_ w_ lab2_ w2_ v_ hne_ hd_ hk_ hp_ ⟨hv_, _⟩; exact ⟨hv_, trivial⟩, by rintro i_ L_ lab_ w_ lab2_ w2_ v_ hne_ hd_ hk_ hp_ ⟨hv_, _⟩; exact ⟨hv_, trivial⟩, by rintro i_ L_ lab_ w_ lab2_ w2_ v_ hne_ hd_ hk_ hp_ ⟨hv_, _⟩; exact ⟨hv_, trivial⟩, by rintro i_ L_ lab_ w_ lab2_ w2_ v_ hne_ hd_ hk_ hp_ ⟨hv_, _⟩; exact ⟨hv_, trivial⟩, by rintro i_ L_ lab_ w_ lab2_ w2_ v_ hne_ hd_ hk_ hp_ ⟨hv_, _⟩; exact ⟨hv_, trivial⟩, by rintro i_ L_ lab_ w_ lab2_ w2_ v_ hne_ hd_ hk_ hp_ ⟨hv_, _⟩; exact ⟨hv_, trivial⟩, by rintro i_ L_ lab_ w_ lab2_ w2_ v_ hne_ hd_ hk_ hp_ ⟨hv_, _⟩; exact ⟨hv_, trivial⟩, by rintro i_ L_ lab_ w_ lab2_ w2_ v_ hne_ hd_ hk_ hp_ ⟨hv_, _⟩; exact ⟨hv_, trivial⟩, by rintro i_ L_ lab_ w_ lab2_ w2_ v_ hne_ hd_ hk_ hp_ ⟨hv_, _⟩; exact ⟨hv_, trivial⟩, by rintro i_ L_ lab_ w_ lab2_ w2_ v_ hne_ hd_ hk_ hp_ ⟨hv_, _⟩; exact ⟨hv_, trivial⟩, by rintro i_ L_ lab_ w_ lab2_ w2_ v_ hne_ hd_ hk_ hp_ ⟨hv_, _⟩; exact ⟨hv_, trivial⟩, by rintro i_ L_ lab_ w_ lab2_ w2_ v_ hne_ hd_ hk_ hp_ ⟨hv_, _⟩; exact ⟨hv_, trivial⟩, by rintro i_ L_ lab_ w_ lab2_ w2_ v_ hne_ hd_ hk_ hp_ ⟨hv_, _⟩; exact ⟨hv_, trivial⟩, by rintro i_ L_ lab_ w_ lab2_ w2_ v_ hne_ hd_ hk_ hp_ ⟨hv_, _⟩; exact ⟨hv_, trivial⟩, by rintro i_ L_ lab_ w_ lab2_ w2_ v_ hne_ hd_ hk_ hp_ ⟨hv_, _⟩; exact ⟨hv_, trivial⟩, by rintro i_ L_ lab_ w_ lab2_ w2_ v_ hne_ hd_ hk_ hp_ ⟨hv_, _⟩; exact ⟨hv_, trivial⟩, by rintro i_ L_ lab_ w_ lab2_ w2_ v_ hne_ hd_ hk_ hp_ ⟨hv_, _⟩; exact ⟨hv_, trivial⟩, by rintro i_ L_ lab_ w_ lab2_ w2_ v_ hne_ hd_ hk_ hp_ ⟨hv_, _⟩; exact ⟨hv_, trivial⟩, by rintro i_ L_ lab_ w_ lab2_ w2_ v_ hne_ hd_ hk_ hp_ ⟨hv_, _⟩; exact ⟨hv_, trivial⟩, by rintro i_ L_ lab_ w_ lab2_ w2_ v_ hne_ hd_ hk_ hp_ ⟨hv_, _⟩; exact ⟨hv_, trivial⟩, by rintro i_ L_ lab_ w_ lab2_ w2_ v_ hne_ hd_ hk_ hp_ ⟨hv_, _⟩; exact ⟨hv_, trivial⟩, by rintro i_ L_ lab_ w_ lab2_ w2_ v_ hne_ hd_ hk_ hp_ ⟨hv_, _⟩; exact ⟨hv_, trivial⟩, by rintro i_ L_ lab_ w_ lab2_ w2_ v_ hne_ hd_ hk_ hp_ ⟨hv_, _⟩; exact ⟨hv_, trivial⟩, by rintro i_ L_ lab_ w_ lab2_ w2_ v_ hne_ hd_ hk_ hp_ ⟨hv_, _⟩; exact ⟨hv_, trivial⟩, by rintro i_ L_ lab_ w_ lab2_ w2_ v_ hne_ hd_ hk_ hp_ ⟨hv_, _⟩; exact ⟨hv_, trivial⟩, by rintro i_ L_ lab_ w_ lab2_ w2_ v_ hne_ hd_ hk_ hp_ ⟨hv_, _⟩; exact ⟨hv_, trivial⟩, by rintro i_ L_ lab_ w_ lab2_ w2_ v_ hne_ hd_ hk_ hp_ ⟨hv_, _⟩; exact ⟨hv_, trivial⟩, by rintro i_ L_ lab_ w_ lab2_ w2_ v_ hne_ hd_ hk_ hp_ ⟨hv_, _⟩; exact ⟨hv_, trivial⟩, by rintro i_ L_ lab_ w_ lab2_ w2_ v_ hne_ hd_ hk_ hp_ ⟨hv_, _⟩; exact ⟨hv_, trivial⟩, by rintro i_ L_ lab_ w_ lab2_ w2_ v_ hne_ hd_ hk_ hp_ ⟨hv_, _⟩; exact ⟨hv_, trivial⟩, by rintro i_ L_ lab_ w_ lab2_ w2_ v_ hne_ hd_ hk_ hp_ ⟨hv_, _⟩; exact ⟨hv_, trivial⟩, by rintro i_ L_ lab_ w_ lab2_ w2_ v_ hne_ hd_ hk_ hp_ ⟨hv_, _⟩; exact ⟨hv_, trivial⟩, by rintro i_ L_ lab_ w_ lab2_ w2_ v_ hne_ hd_ hk_ hp_ ⟨hv_, _⟩; exact ⟨hv_, trivial⟩, by rintro i_ L_ lab_ w_ lab2_ w2_ v_ hne_ hd_ hk_ hp_ ⟨hv_, _⟩; exact ⟨hv_, trivial⟩, by rintro i_ L_ lab_ w_ lab2_ w2_ v_ hne_ hd_ hk_ hp_ ⟨hv_, _⟩; exact ⟨hv_, trivial⟩, trivial⟩
            · refine (ob_succ (ob_succ (ob_succ (ob_succ (ob_succ (ob_succ (ob_succ (ob_succ (ob_succ (ob_succ (ob_succ (ob_succ (ob_succ (ob_succ (ob_succ (ob_succ (ob_succ (ob_succ (ob_succ (ob_succ (ob_succ (ob_succ (ob_succ (ob_succ (ob_succ (ob_succ (ob_succ (ob_succ (ob_succ (ob_succ (ob_succ (ob_succ (ob_succ (ob_succ (ob_succ (ob_succ (ob_succ (ob_succ (ob_succ (ob_succ (ob_succ (ob_succ (ob_succ ob_nil ?_) ?_) ?_) ?_) ?_) ?_) ?_) ?_) ?_) ?_) ?_) ?_) ?_) ?_) ?_) ?_) ?_) ?_) ?_) ?_) ?_) ?_) ?_) ?_) ?_) ?_) ?_) ?_) ?_) ?_) ?_) ?_) ?_) ?_) ?_) ?_) ?_) ?_) ?_) ?_) ?_) ?_) ?_)
              · exact ob_moveb (v := .slice oa93 y88.1.length c94) rfl (fun _ h_ => h_ _ _ rfl) rfl (fun _ _ _ => ⟨rfl, trivial⟩) (fun _ _ _ h_ => h_)
              · intro o_ L_ F_ lab_ w_ ho_ hL_ hw_ hcl_ hb_ hr_ hq_; obtain rfl := Option.some.inj (ho_ : some _ = some o_); obtain ⟨cx, b87, s79, s95, s103, s57, _⟩ := hq_
                obtain ⟨q108, hl77, rfl, _⟩ := hr_ 0 (by decide) (hw_ 0 (by kernel_rfl))
                replace hl77 : Gk.look F_ 77 = some (.slice oa93 y88.1.length c94) := hl77
                refine LW.b2s (xs := y88.1) s95 kUnd_24 kUnd_5 kUnd_9 wn rfl hl77 ?_
                refine LW.nil ?_; intro a_ ha_
                exact ⟨rfl, _, _, ha_, ⟨rfl, trivial⟩, Ke.refl, cx, b87, s79, s95, s103, s57, trivial⟩
              · exact ob_moveb (v := .slice oa101 y96.1.length c102) rfl (fun _ h_ => h_ _ _ rfl) rfl (fun _ _ _ => ⟨rfl, trivial⟩) (fun _ _ _ h_ => h_)
              · intro o_ L_ F_ lab_ w_ ho_ hL_ hw_ hcl_ hb_ hr_ hq_; obtain rfl := Option.some.inj (ho_ : some _ = some o_); obtain ⟨cx, b87, s79, s95, s103, s57, _⟩ := hq_
                obtain ⟨q109, hl79, rfl, _⟩ := hr_ 2 (by decide) (hw_ 2 (by kernel_rfl))
                replace hl79 : Gk.look F_ 79 = some (.slice oa101 y96.1.length c102) := hl79
                refine LW.b2s (xs := y96.1) s103 kUnd_24 kUnd_5 kUnd_9 wn rfl hl79 ?_
                refine LW.nil ?_; intro a_ ha_
                exact ⟨rfl, _, _, ha_, ⟨rfl, trivial⟩, Ke.refl, cx, b87, s79, s95, s103, s57, trivial⟩
              · intro o_ L_ F_ lab_ w_ ho_ hL_ hw_ hcl_ hb_ hr_ hq_; obtain rfl := Option.some.inj (ho_ : some _ = some o_); obtain ⟨cx, b87, s79, s95, s103, s57, _⟩ := hq_
                obtain ⟨q110, hl78, rfl, _⟩ := hr_ 1 (by decide) (hw_ 1 (by kernel_rfl))
                replace hl78 : Gk.look F_ 78 = some (strV y88.1) := hl78
                obtain ⟨q111, hl80, rfl, _⟩ := hr_ 3 (by decide) (hw_ 3 (by kernel_rfl))
                replace hl80 : Gk.look F_ 80 = some (strV y96.1) := hl80
                refine LW.nes (letm_eq hx_x112) wn rfl hl78 hl80 ?_; intro x_ hx_; cases hx_
                refine LW.nil ?_; intro a_ ha_
                exact ⟨rfl, _, _, ha_, ⟨rfl, trivial⟩, Ke.refl, cx, b87, s79, s95, s103, s57, trivial⟩
              · intro o_ L_ F_ lab_ w_ ho_ hL_ hw_ hcl_ hb_ hr_ hq_; obtain rfl := Option.some.inj (ho_ : some _ = some o_); obtain ⟨cx, b87, s79, s95, s103, s57, _⟩ := hq_
                obtain ⟨q113, hl81, rfl, _⟩ := hr_ 4 (by decide) (hw_ 4 (by kernel_rfl))
                replace hl81 : Gk.look F_ 81 = some (.bool x112) := hl81
                refine LW.move wn rfl hl81 ?_
                refine LW.nil ?_; intro a_ ha_
                exact ⟨rfl, _, _, ha_, ⟨rfl, trivial⟩, Ke.refl, cx, b87, s79, s95, s103, s57, trivial⟩
              · exact ob_skip (b' := true) 5 rfl (by kernel_rfl) (by decide) ⟨_, rfl⟩ (fun _ _ _ _ h_ => .inl (h_.1.trans (congrArg Value.bool hb114))) rfl rfl (fun _ _ _ => ⟨rfl, trivial⟩) (fun _ _ _ h_ => h_)
              · exact ob_skip (b' := true) 5 rfl (by kernel_rfl) (by decide) ⟨_, rfl⟩ (fun _ _ _ _ h_ => .inl (h_.1.trans (congrArg Value.bool hb114))) rfl rfl (fun _ _ _ => ⟨rfl, trivial⟩) (fun _ _ _ h_ => h_)
              · exact ob_skip (b' := true) 5 rfl (by kernel_rfl) (by decide) ⟨_, rfl⟩ (fun _ _ _ _ h_ => .inl (h_.1.trans (congrArg Value.bool hb114))) rfl rfl (fun _ _ _ => ⟨rfl, trivial⟩) (fun _ _ _ h_ => h_)
              · intro o_ L_ F_ lab_ w_ ho_ hL_ hw_ hcl_ hb_ hr_ hq_; obtain rfl := Option.some.inj (ho_ : some _ = some o_); obtain ⟨cx, b87, s79, s95, s103, s57, _⟩ := hq_
                obtain ⟨q115, hl82, rfl, _⟩ := hr_ 5 (by decide) (hw_ 5 (by kernel_rfl))
                replace hl82 : Gk.look F_ 82 = some (.bool x112) := hl82
                obtain ⟨q116, hl85, rfl, _⟩ := hr_ 8 (by decide) (hw_ 8 (by kernel_rfl))
                replace hl85 : Gk.look F_ 85 = some (undef) := hl85
                refine LW.pick_t wn rfl (bk hl82 hb114) rfl ?_
                refine LW.nil ?_; intro a_ ha_
                exact ⟨rfl, _, _, ha_, ⟨rfl, trivial⟩, Ke.refl, cx, b87, s79, s95, s103, s57, trivial⟩
              · intro o_ L_ F_ lab_ w_ ho_ hL_ hw_ hcl_ hb_ hr_ hq_; obtain rfl := Option.some.inj (ho_ : some _ = some o_); obtain ⟨cx, b87, s79, s95, s103, s57, _⟩ := hq_
                obtain ⟨q117, hl86, rfl, _⟩ := hr_ 9 (by decide) (hw_ 9 (by kernel_rfl))
                replace hl86 : Gk.look F_ 86 = some (.bool true) := hl86
                refine LW.move wn rfl hl86 ?_
                refine LW.nil ?_; intro a_ ha_
                exact ⟨rfl, _, _, ha_, ⟨rfl, trivial⟩, Ke.refl, cx, b87, s79, s95, s103, s57, trivial⟩
              · exact ob_skip (b' := true) 10 rfl (by kernel_rfl) (by decide) ⟨_, rfl⟩ (fun _ _ _ _ h_ => .inl h_.1) rfl rfl (fun _ _ _ => ⟨rfl, trivial⟩) (fun _ _ _ h_ => h_)
              · exact ob_skip (b' := true) 10 rfl (by kernel_rfl) (by decide) ⟨_, rfl⟩ (fun _ _ _ _ h_ => .inl h_.1) rfl rfl (fun _ _ _ => ⟨rfl, trivial⟩) (fun _ _ _ h_ => h_)
              · exact ob_skip (b' := true) 10 rfl (by kernel_rfl) (by decide) ⟨_, rfl⟩ (fun _ _ _ _ h_ => .inl h_.1) rfl rfl (fun _ _ _ => ⟨rfl, trivial⟩) (fun _ _ _ h_ => h_)
              · intro o_ L_ F_ lab_ w_ ho_ hL_ hw_ hcl_ hb_ hr_ hq_; obtain rfl := Option.some.inj (ho_ : some _ = some o_); obtain ⟨cx, b87, s79, s95, s103, s57, _⟩ := hq_
                obtain ⟨q118, hl87, rfl, _⟩ := hr_ 10 (by decide) (hw_ 10 (by kernel_rfl))
                replace hl87 : Gk.look F_ 87 = some (.bool true) := hl87
                obtain ⟨q119, hl90, rfl, _⟩ := hr_ 13 (by decide) (hw_ 13 (by kernel_rfl))
                replace hl90 : Gk.look F_ 90 = some (undef) := hl90
                refine LW.pick_t wn rfl hl87 rfl ?_
                refine LW.nil ?_; intro a_ ha_
                exact ⟨rfl, _, _, ha_, ⟨rfl, trivial⟩, Ke.refl, cx, b87, s79, s95, s103, s57, trivial⟩
              · intro o_ L_ F_ lab_ w_ ho_ hL_ hw_ hcl_ hb_ hr_ hq_; obtain rfl := Option.some.inj (ho_ : some _ = some o_); obtain ⟨cx, b87, s79, s95, s103, s57, _⟩ := hq_
                obtain ⟨q120, hl91, rfl, _⟩ := hr_ 14 (by decide) (hw_ 14 (by kernel_rfl))
                replace hl91 : Gk.look F_ 91 = some (.bool true) := hl91
                refine LW.move wn rfl hl91 ?_
                refine LW.nil ?_; intro a_ ha_
                exact ⟨rfl, _, _, ha_, ⟨rfl, trivial⟩, Ke.refl, cx, b87, s79, s95, s103, s57, trivial⟩
              · exact ob_skip (b' := true) 15 rfl (by kernel_rfl) (by decide) ⟨_, rfl⟩ (fun _ _ _ _ h_ => .inl h_.1) rfl rfl (fun _ _ _ => ⟨rfl, trivial⟩) (fun _ _ _ h_ => h_)
              · exact ob_skip (b' := true) 15 rfl (by kernel_rfl) (by decide) ⟨_, rfl⟩ (fun _ _ _ _ h_ => .inl h_.1) rfl rfl (fun _ _ _ => ⟨rfl, trivial⟩) (fun _ _ _ h_ => h_)
              · exact ob_skip (b' := true) 15 rfl (by kernel_rfl) (by decide) ⟨_, rfl⟩ (fun _ _ _ _ h_ => .inl h_.1) rfl rfl (fun _ _ _ => ⟨rfl, trivial⟩) (fun _ _ _ h_ => h_)
              · exact ob_skip (b' := true) 15 rfl (by kernel_rfl) (by decide) ⟨_, rfl⟩ (fun _ _ _ _ h_ => .inl h_.1) rfl rfl (fun _ _ _ => ⟨rfl, trivial⟩) (fun _ _ _ h_ => h_)
              · exact ob_skip (b' := true) 15 rfl (by kernel_rfl) (by decide) ⟨_, rfl⟩ (fun _ _ _ _ h_ => .inl h_.1) rfl rfl (fun _ _ _ => ⟨rfl, trivial⟩) (fun _ _ _ h_ => h_)
              · exact ob_skip (b' := true) 15 rfl (by kernel_rfl) (by decide) ⟨_, rfl⟩ (fun _ _ _ _ h_ => .inl h_.1) rfl rfl (fun _ _ _ => ⟨rfl, trivial⟩) (fun _ _ _ h_ => h_)
              · exact ob_skip (b' := true) 15 rfl (by kernel_rfl) (by decide) ⟨_, rfl⟩ (fun _ _ _ _ h_ => .inl h_.1) rfl rfl (fun _ _ _ => ⟨rfl, trivial⟩) (fun _ _ _ h_ => h_)
              · exact ob_skip (b' := true) 15 rfl (by kernel_rfl) (by decide) ⟨_, rfl⟩ (fun _ _ _ _ h_ => .inl h_.1) rfl rfl (fun _ _ _ => ⟨rfl, trivial⟩) (fun _ _ _ h_ => h_)
              · exact ob_skip (b' := true) 15 rfl (by kernel_rfl) (by decide) ⟨_, rfl⟩ (fun _ _ _ _ h_ => .inl h_.1) rfl rfl (fun _ _ _ => ⟨rfl, trivial⟩) (fun _ _ _ h_ => h_)
              · exact ob_skip (b' := true) 15 rfl (by kernel_rfl) (by decide) ⟨_, rfl⟩ (fun _ _ _ _ h_ => .inl h_.1) rfl rfl (fun _ _ _ => ⟨rfl, trivial⟩) (fun _ _ _ h_ => h_)
              · exact ob_skip (b' := true) 15 rfl (by kernel_rfl) (by decide) ⟨_, rfl⟩ (fun _ _ _ _ h_ => .inl h_.1) rfl rfl (fun _ _ _ => ⟨rfl, trivial⟩) (fun _ _ _ h_ => h_)
              · exact ob_skip (b' := true) 15 rfl (by kernel_rfl) (by decide) ⟨_, rfl⟩ (fun _ _ _ _ h_ => .inl h_.1) rfl rfl (fun _ _ _ => ⟨rfl, trivial⟩) (fun _ _ _ h_ => h_)
              · exact ob_skip (b' := true) 15 rfl (by kernel_rfl) (by decide) ⟨_, rfl⟩ (fun _ _ _ _ h_ => .inl h_.1) rfl rfl (fun _ _ _ => ⟨rfl, trivial⟩) (fun _ _ _ h_ => h_)
              · intro o_ L_ F_ lab_ w_ ho_ hL_ hw_ hcl_ hb_ hr_ hq_; obtain rfl := Option.some.inj (ho_ : some _ = some o_); obtain ⟨cx, b87, s79, s95, s103, s57, _⟩ := hq_
                obtain ⟨q121, hl92, rfl, _⟩ := hr_ 15 (by decide) (hw_ 15 (by kernel_rfl))
                replace hl92 : Gk.look F_ 92 = some (.bool true) := hl92
                obtain ⟨q122, hl105, rfl, _⟩ := hr_ 28 (by decide) (hw_ 28 (by kernel_rfl))
                replace hl105 : Gk.look F_ 105 = some (undef) := hl105
                refine LW.pick_t wn rfl hl92 rfl ?_
                refine LW.nil ?_; intro a_ ha_
                exact ⟨rfl, _, _, ha_, ⟨rfl, trivial⟩, Ke.refl, cx, b87, s79, s95, s103, s57, trivial⟩
              · intro o_ L_ F_ lab_ w_ ho_ hL_ hw_ hcl_ hb_ hr_ hq_; obtain rfl := Option.some.inj (ho_ : some _ = some o_); obtain ⟨cx, b87, s79, s95, s103, s57, _⟩ := hq_
                obtain ⟨q123, hl106, rfl, _⟩ := hr_ 29 (by decide) (hw_ 29 (by kernel_rfl))
                replace hl106 : Gk.look F_ 106 = some (.bool true) := hl106
                refine LW.move wn rfl hl106 ?_
                refine LW.nil ?_; intro a_ ha_
                exact ⟨rfl, _, _, ha_, ⟨rfl, trivial⟩, Ke.refl, cx, b87, s79, s95, s103, s57, trivial⟩
              · exact ob_skip (b' := true) 30 rfl (by kernel_rfl) (by decide) ⟨_, rfl⟩ (fun _ _ _ _ h_ => .inl h_.1) rfl rfl (fun _ _ _ => ⟨rfl, trivial⟩) (fun _ _ _ h_ => h_)
              · exact ob_skip (b' := true) 30 rfl (by kernel_rfl) (by decide) ⟨_, rfl⟩ (fun _ _ _ _ h_ => .inl h_.1) rfl rfl (fun _ _ _ => ⟨rfl, trivial⟩) (fun _ _ _ h_ => h_)
              · exact ob_skip (b' := true) 30 rfl (by kernel_rfl) (by decide) ⟨_, rfl⟩ (fun _ _ _ _ h_ => .inl h_.1) rfl rfl (fun _ _ _ => ⟨rfl, trivial⟩) (fun _ _ _ h_ => h_)
              · exact ob_skip (b' := true) 30 rfl (by kernel_rfl) (by decide) ⟨_, rfl⟩ (fun _ _ _ _ h_ => .inl h_.1) rfl rfl (fun _ _ _ => ⟨rfl, trivial⟩) (fun _ _ _ h_ => h_)
              · exact ob_skip (b' := true) 30 rfl (by kernel_rfl) (by decide) ⟨_, rfl⟩ (fun _ _ _ _ h_ => .inl h_.1) rfl rfl (fun _ _ _ => ⟨rfl, trivial⟩) (fun _ _ _ h_ => h_)
              · exact ob_skip (b' := true) 30 rfl (by kernel_rfl) (by decide) ⟨_, rfl⟩ (fun _ _ _ _ h_ => .inl h_.1) rfl rfl (fun _ _ _ => ⟨rfl, trivial⟩) (fun _ _ _ h_ => h_)
              · exact ob_skip (b' := true) 30 rfl (by kernel_rfl) (by decide) ⟨_, rfl⟩ (fun _ _ _ _ h_ => .inl h_.1) rfl rfl (fun _ _ _ => ⟨rfl, trivial⟩) (fun _ _ _ h_ => h_)
              · exact ob_skip (b' := true) 30 rfl (by kernel_rfl) (by decide) ⟨_, rfl⟩ (fun _ _ _ _ h_ => .inl h_.1) rfl rfl (fun _ _ _ => ⟨rfl, trivial⟩) (fun _ _ _ h_ => h_)
              · exact ob_skip (b' := true) 30 rfl (by kernel_rfl) (by decide) ⟨_, rfl⟩ (fun _ _ _ _ h_ => .inl h_.1) rfl rfl (fun _ _ _ => ⟨rfl, trivial⟩) (fun _ _ _ h_ => h_)
              · exact ob_skip (b' := true) 30 rfl (by kernel_rfl) (by decide) ⟨_, rfl⟩ (fun _ _ _ _ h_ => .inl h_.1) rfl rfl (fun _ _ _ => ⟨rfl, trivial⟩) (fun _ _ _ h_ => h_)
              · exact ob_skip (b' := true) 30 rfl (by kernel_rfl) (by decide) ⟨_, rfl⟩ (fun _ _ _ _ h_ => .inl h_.1) rfl rfl (fun _ _ _ => ⟨rfl, trivial⟩) (fun _ _ _ h_ => h_)
              · intro o_ L_ F_ lab_ w_ ho_ hL_ hw_ hcl_ hb_ hr_ hq_; obtain rfl := Option.some.inj (ho_ : some _ = some o_); obtain ⟨cx, b87, s79, s95, s103, s57, _⟩ := hq_
                obtain ⟨q124, hl107, rfl, _⟩ := hr_ 30 (by decide) (hw_ 30 (by kernel_rfl))
                replace hl107 : Gk.look F_ 107 = some (.bool true) := hl107
                obtain ⟨q125, hl118, rfl, _⟩ := hr_ 41 (by decide) (hw_ 41 (by kernel_rfl))
                replace hl118 : Gk.look F_ 118 = some (undef) := hl118
                refine LW.pick_t wn rfl hl107 rfl ?_
                refine LW.nil ?_; intro a_ ha_
                exact ⟨rfl, _, _, ha_, ⟨rfl, trivial⟩, Ke.refl, cx, b87, s79, s95, s103, s57, trivial⟩
            · intro F_ lab_ w_ hb_ hr_ hq_; obtain ⟨cx, b87, s79, s95, s103, s57, _⟩ := hq_
              obtain ⟨q128, hl119, rfl, _⟩ := hr_ 42 (by decide)
              refine LW.sub (G := [(11, .pointer (some ⟨g80, 0, none⟩)), (12, .slice oa93 y88.1.length c94), (13, .bool y88.2.1), (14, .int .i64 y88.2.2), (15, .slice oa101 y96.1.length c102), (16, .bool y96.2.1), (17, .int .i64 y96.2.2), (49, .slice oa54 ([(S_t50.mk a0 a1 a2), (S_t50.mk a0 y32 x42), (S_t50.mk y24 x48 y49)]).length c55), (50, .int .i64 (([(S_t50.mk a0 a1 a2), (S_t50.mk a0 y32 x42), (S_t50.mk y24 x48 y49)]).length : Int)), (51, .int .i64 ((k70 : Nat) : Int)), (119, .bool true)]) ⟨hb_ 11 _ rfl, hb_ 12 _ rfl, hb_ 13 _ rfl, hb_ 14 _ rfl, hb_ 15 _ rfl, hb_ 16 _ rfl, hb_ 17 _ rfl, hb_ 49 _ rfl, hb_ 50 _ rfl, hb_ 51 _ rfl, hl119, trivial⟩ ?_
              simp only [List.drop_succ_cons, List.drop_nil, List.drop_zero]
              refine LW.nil ?_
              obtain rfl := Option.some.inj hm
              refine EW.sub (G := [(49, .slice oa54 ([(S_t50.mk a0 a1 a2), (S_t50.mk a0 y32 x42), (S_t50.mk y24 x48 y49)]).length c55), (50, .int .i64 (([(S_t50.mk a0 a1 a2), (S_t50.mk a0 y32 x42), (S_t50.mk y24 x48 y49)]).length : Int)), (51, .int .i64 ((k70 : Nat) : Int)), (119, .bool true)]) ⟨rfl, rfl, rfl, rfl, trivial⟩ ?_
              exact EW.join_n ⟨_, rfl, cx, s57, trivial⟩
          · replace hm := cond_f hm hb114
            obtain ⟨x134, hx_x134, hm_⟩ := letm_some hm; clear hm; have hm := hm_; clear hm_
            rcases Bool.eq_false_or_eq_true x134 with hb138 | hb138
            · replace hm := cond_t hm hb138
              refine CW.sub (G := [(11, .pointer (some ⟨g80, 0, none⟩)), (12, .slice oa93 y88.1.length c94), (13, .bool y88.2.1), (14, .int .i64 y88.2.2), (15, .slice oa101 y96.1.length c102), (16, .bool y96.2.1), (17, .int .i64 y96.2.2), (49, .slice oa54 ([(S_t50.mk a0 a1 a2), (S_t50.mk a0 y32 x42), (S_t50.mk y24 x48 y49)]).length c55), (50, .int .i64 (([(S_t50.mk a0 a1 a2), (S_t50.mk a0 y32 x42), (S_t50.mk y24 x48 y49)]).length : Int)), (51, .int .i64 ((k70 : Nat) : Int))]) ⟨rfl, rfl, rfl, rfl, rfl, rfl, rfl, rfl, rfl, rfl, trivial⟩ ?_
              refine CW.drawL (fun i_ => []) (fun i_ => by (try dsimp only); (repeat' split) <;> rfl) kMix_ 43 (by kernel_rfl) cx.top ?_
              intro w147 e148
              replace cx := cx.step e148 rfl
              replace b87 := b87.step e148 rfl
              replace s79 := s79.step e148
              replace s95 := s95.step e148
              replace s103 := s103.step e148
              replace s57 := s57.step e148
              clear e148
              refine ⟨[(fun L_ lab_ w_ v_ => v_ = .slice oa93 y88.1.length c94 ∧ True),
    (fun L_ lab_ w_ v_ => v_ = strV y88.1 ∧ True),
    (fun L_ lab_ w_ v_ => v_ = .slice oa101 y96.1.length c102 ∧ True),
    (fun L_ lab_ w_ v_ => v_ = strV y96.1 ∧ True),
    (fun L_ lab_ w_ v_ => v_ = .bool x112 ∧ True),
    (fun L_ lab_ w_ v_ => v_ = .bool x112 ∧ True),
    (fun L_ lab_ w_ v_ => v_ = .bool y88.2.1 ∧ True),
    (fun L_ lab_ w_ v_ => v_ = .bool y96.2.1 ∧ True),
    (fun L_ lab_ w_ v_ => v_ = .bool x134 ∧ True),
    (fun L_ lab_ w_ v_ => v_ = .bool x134 ∧ True),
    (fun L_ lab_ w_ v_ => v_ = .bool x134 ∧ True),
    (fun L_ lab_ w_ v_ => v_ = undef ∧ True),
    (fun L_ lab_ w_ v_ => v_ = undef ∧ True),
    (fun L_ lab_ w_ v_ => v_ = undef ∧ True),
    (fun L_ lab_ w_ v_ => v_ = .bool true ∧ True),
    (fun L_ lab_ w_ v_ => v_ = .bool true ∧ True),
    (fun L_ lab_ w_ v_ => v_ = undef ∧ True),
    (fun L_ lab_ w_ v_ => v_ = undef ∧ True),
    (fun L_ lab_ w_ v_ => v_ = undef ∧ True),
    (fun L_ lab_ w_ v_ => v_ = undef ∧ True),
    (fun L_ lab_ w_ v_ => v_ = undef ∧ True),
    (fun L_ lab_ w_ v_ => v_ = undef ∧ True),
    (fun L_ lab_ w_ v_ => v_ = undef ∧ True),
    (fun L_ lab_ w_ v_ => v_ = undef ∧ True),
    (fun L_ lab_ w_ v_ => v_ = undef ∧ True),
    (fun L_ lab_ w_ v_ => v_ = undef ∧ True),
    (fun L_ lab_ w_ v_ => v_ = undef ∧ True),
    (fun L_ lab_ w_ v_ => v_ = undef ∧ True),
    (fun L_ lab_ w_ v_ => v_ = undef ∧ True),
    (fun L_ lab_ w_ v_ => v_ = .bool true ∧ True),
    (fun L_ lab_ w_ v_ => v_ = .bool true ∧ True),
    (fun L_ lab_ w_ v_ => v_ = undef ∧ True),
    (fun L_ lab_ w_ v_ => v_ = undef ∧ True),
    (fun L_ lab_ w_ v_ => v_ = undef ∧ True),
    (fun L_ lab_ w_ v_ => v_ = undef ∧ True),
    (fun L_ lab_ w_ v_ => v_ = undef ∧ True),
    (fun L_ lab_ w_ v_ => v_ = undef ∧ True),
    (fun L_ lab_ w_ v_ => v_ = undef ∧ True),
    (fun L_ lab_ w_ v_ => v_ = undef ∧ True),
    (fun L_ lab_ w_ v_ => v_ = undef ∧ True),
    (fun L_ lab_ w_ v_ => v_ = undef ∧ True),
    (fun L_ lab_ w_ v_ => v_ = undef ∧ True),
    (fun L_ lab_ w_ v_ => v_ = .bool true ∧ True)], (fun L_ lab_ w_ => Cx [] w lab w_ lab_ ∧ Box lab_ w_ 21 g80 50 [.slice oa77 x72.b.length c78, .int .i64 x72.n, .int .i64 x72.s] ∧ SL Rep.u8 lab_ w_ oa77 c78 x72.b ∧ SL Rep.u8 lab_ w_ oa93 c94 y88.1 ∧ SL Rep.u8 lab_ w_ oa101 c102 y96.1 ∧ SL R_t50 lab_ w_ oa54 c55 ([(S_t50.mk a0 a1 a2), (S_t50.mk a0 y32 x42), (S_t50.mk y24 x48 y49)]) ∧ True), ?_, ⟨cx, b87, s79, s95, s103, s57, trivial⟩, ?_, ?_⟩
              · exact ⟨by rintro i_ L_ lab_ w_ lab2_ w2_ v_ hne_ hd_ hk_ hp_ ⟨hv_, _⟩; exact ⟨hv_, trivial⟩, by rintro i_ L_ lab_ w_ lab2_ w2_ v_ hne_ hd_ hk_ hp_ ⟨hv_, _⟩; exact ⟨hv_, trivial⟩, by rintro i_ L_ lab_ w_ lab2_ w2_ v_ hne_ hd_ hk_ hp_ ⟨hv_, _⟩; exact ⟨hv_, trivial⟩, by rintro i_ L_ lab_ w_ lab2_ w2_ v_ hne_ hd_ hk_ hp_ ⟨hv_, _⟩; exact ⟨hv_, trivial⟩, by rintro i_ L_ lab_ w_ lab2_ w2_ v_ hne_ hd_ hk_ hp_ ⟨hv_, _⟩; exact ⟨hv_, trivial⟩, by rintro i_ L_ lab_ w_ lab2_ w2_ v_ hne_ hd_ hk_ hp_ ⟨hv_, _⟩; exact ⟨hv_, trivial⟩, by rintro i_ L_ lab_ w_ lab2_ w2_ v_ hne_ hd_ hk_ hp_ ⟨hv_, _⟩; exact ⟨hv_, trivial⟩, by rintro i_ L_ lab_ w_ lab2_ w2_ v_ hne_ hd_ hk_ hp_ ⟨hv_, _⟩; exact ⟨hv_, trivial⟩, by rintro i_ L_ lab_ w_ lab2_ w2_ v_ hne_ hd_ hk_ hp_ ⟨hv_, _⟩; exact ⟨hv_, trivial⟩, by rintro i_ L_ lab_ w_ lab2_ w2_ v_ hne_ hd_ hk_ hp_ ⟨hv_, _⟩; exact ⟨hv_, trivial⟩, by rintro i_ L_ lab_ w_ lab2_ w2_ v_ hne_ hd_ hk_ hp_ ⟨hv_, _⟩; exact ⟨hv_, trivial⟩, by rintro i_ L_ lab_ w_ lab2_ w2_ v_ hne_ hd_ hk_ hp_ ⟨hv_, _⟩; exact ⟨hv_, trivial⟩, by rintro i_ L_ lab_ w_ lab2_ w2_ v_ hne_ hd_ hk_ hp_ ⟨hv_, _⟩; exact ⟨hv_, trivial⟩, by rintro i_ L_ lab_ w_ lab2_ w2_ v_ hne_ hd_ hk_ hp_ ⟨hv_, _⟩; exact ⟨hv_, trivial⟩, by rintro i_ L_ lab_ w_ lab2_ w2_ v_ hne_ hd_ hk_ hp_ ⟨hv_, _⟩; exact ⟨hv_, trivial⟩, by rintro i_ L_ lab_ w_ lab2_ w2_ v_ hne_ hd_ hk_ hp_ ⟨hv_, _⟩; exact ⟨hv_, trivial⟩, by rintro i_ L_ lab_ w_ lab2_ w2_ v_ hne_ hd_ hk_ hp_ ⟨hv_, _⟩; exact ⟨hv_, trivial⟩, by rintro i_ L_ lab_ w_ lab2_ w2_ v_ hne_ hd_ hk_ hp_ ⟨hv_, _⟩; exact ⟨hv_, trivial⟩, by rintro i_ L_ lab_ w_ lab2_ w2_ v_ hne_ hd_ hk_ hp_ ⟨hv_, _⟩; exact ⟨hv_, trivial⟩, by rintro i_ L_ lab_ w_ lab2_ w2_ v_ hne_ hd_ hk_ hp_ ⟨hv_, _⟩; exact ⟨hv_, trivial⟩, by rintro i_ L_ lab_ w_ lab2_ w2_ v_ hne_ hd_ hk_ hp_ ⟨hv_, _⟩; exact ⟨hv_, trivial⟩, by rintro i_ L_ lab_ w_ lab2_ w2_ v_ hne_ hd_ hk_ hp_ ⟨hv_, _⟩; exact ⟨hv_, trivial⟩, by rintro i_ L_ lab_ w_ lab2_ w2_ v_ hne_ hd_ hk_ hp_ ⟨hv_, _⟩; exact ⟨hv_, trivial⟩, by rintro i_ L_ lab_ w_ lab2_ w2_ v_ hne_ hd_ hk_ hp_ ⟨hv_, _⟩; exact ⟨hv_, trivial⟩, by rintro i_ L_ lab_ w_ lab2_ w2_ v_ hne_ hd_ hk_ hp_ ⟨hv_, _⟩; exact ⟨hv_, trivial⟩, by rintro i_ L_ lab_ w_ lab2_ w2_ v_ hne_ hd_ hk_ hp_ ⟨hv_, _⟩; exact ⟨hv_, trivial⟩, by rintro i_ L_ lab_ w_ lab2_ w2_ v_ hne_ hd_ hk_ hp_ ⟨hv_, _⟩; exact ⟨hv_, trivial⟩, by rintro i_ L_ lab_ w_ lab2_ w2_ v_ hne_ hd_ hk_ hp_ ⟨hv_, _⟩; exact ⟨hv_, trivial⟩, by rintro i_ L_ lab_ w_ lab2_ w2_ v_ hne_ hd_ hk_ hp_ ⟨hv_, _⟩; exact ⟨hv_, trivial⟩, by rintro i_ L_ lab_ w_ lab2_ w2_ v_ hne_ hd_ hk_ hp_ ⟨hv_, _⟩; exact ⟨hv_, trivial⟩, by rintro i_ L_ lab_ w_ lab2_ w2_ v_ hne_ hd_ hk_ hp_ ⟨hv_, _⟩; exact ⟨hv_, trivial⟩, by rintro i_ L_ lab_ w_ lab2_ w2_ v_ hne_ hd_ hk_ hp_ ⟨hv_, _⟩; exact ⟨hv_, trivial⟩, by rintro i_ L_ lab_ w_ lab2_ w2_ v_ hne_ hd_ hk_ hp_ ⟨hv_, _⟩; exact ⟨hv_, trivial⟩, by rintro i_ L_ lab_ w_ lab2_ w2_ v_ hne_ hd_ hk_ hp_ ⟨hv_, _⟩; exact ⟨hv_, trivial⟩, by rintro i_ L_ lab_ w_ lab2_ w2_ v_ hne_ hd_ hk_ hp_ ⟨hv_, _⟩; exact ⟨hv_, trivial⟩, by rintro i_ L_ lab_ w_ lab2_ w2_ v_ hne_ hd_ hk_ hp_ ⟨hv_, _⟩; exact ⟨hv_, trivial⟩, by rintro i_ L_ lab_ w_ lab2_ w2_ v_ hne_ hd_ hk_ hp_ ⟨hv_, _⟩; exact ⟨hv_, trivial⟩, by rintro i_ L_ lab_ w_ lab2_ w2_ v_ hne_ hd_ hk_ hp_ ⟨hv_, _⟩; exact ⟨hv_, trivial⟩, by rintro i_ L_ lab_ w_ lab2_ w2_ v_ hne_ hd_ hk_ hp_ ⟨hv_, _⟩; exact ⟨hv_, trivial⟩, by rintro i_ L_ lab_ w_ lab2_ w2_ v_ hne_ hd_ hk_ hp_ ⟨hv_, _⟩; exact ⟨hv_, trivial⟩, by rintro i_ L_ lab_ w_ lab2_ w2_ v_ hne_ hd_ hk_ hp_ ⟨hv_, _⟩; exact ⟨hv_, trivial⟩, by rintro i_ L_ lab_ w_ lab2_ w2_ v_ hne_ hd_ hk_ hp_ ⟨hv_, _⟩; exact ⟨hv_, trivial⟩, by rintro i_ L_ lab_ w_ lab2_ w2_ v_ hne_ hd_ hk_ hp_ ⟨hv_, _⟩; exact ⟨hv_, trivial⟩, trivial⟩
              · refine (ob_succ (ob_succ (ob_succ (ob_succ (ob_succ (ob_succ (ob_succ (ob_succ (ob_succ (ob_succ (ob_succ (ob_succ (ob_succ (ob_succ (ob_succ (ob_succ (ob_succ (ob_succ (ob_succ (ob_succ (ob_succ (ob_succ (ob_succ (ob_succ (ob_succ (ob_succ (ob_succ (ob_succ (ob_succ (ob_succ (ob_succ (ob_succ (ob_succ (ob_succ (ob_succ (ob_succ (ob_succ (ob_succ (ob_succ (ob_succ (ob_succ (ob_succ (ob_succ ob_nil ?_) ?_) ?_) ?_) ?_) ?_) ?_) ?_) ?_) ?_) ?_) ?_) ?_) ?_) ?_) ?_) ?_) ?_) ?_) ?_) ?_) ?_) ?_) ?_) ?_) ?_) ?_) ?_) ?_) ?_) ?_) ?_) ?_) ?_) ?_) ?_) ?_) ?_) ?_) ?_) ?_) ?_) ?_)
                · exact ob_moveb (v := .slice oa93 y88.1.length c94) rfl (fun _ h_ => h_ _ _ rfl) rfl (fun _ _ _ => ⟨rfl, trivial⟩) (fun _ _ _ h_ => h_)
                · intro o_ L_ F_ lab_ w_ ho_ hL_ hw_ hcl_ hb_ hr_ hq_; obtain rfl := Option.some.inj (ho_ : some _ = some o_); obtain ⟨cx, b87, s79, s95, s103, s57, _⟩ := hq_
                  obtain ⟨q108, hl77, rfl, _⟩ := hr_ 0 (by decide) (hw_ 0 (by kernel_rfl))
                  replace hl77 : Gk.look F_ 77 = some (.slice oa93 y88.1.length c94) := hl77
                  refine LW.b2s (xs := y88.1) s95 kUnd_24 kUnd_5 kUnd_9 wn rfl hl77 ?_
                  refine LW.nil ?_; intro a_ ha_
                  exact ⟨rfl, _, _, ha_, ⟨rfl, trivial⟩, Ke.refl, cx, b87, s79, s95, s103, s57, trivial⟩
                · exact ob_moveb (v := .slice oa101 y96.1.length c102) rfl (fun _ h_ => h_ _ _ rfl) rfl (fun _ _ _ => ⟨rfl, trivial⟩) (fun _ _ _ h_ => h_)
                · intro o_ L_ F_ lab_ w_ ho_ hL_ hw_ hcl_ hb_ hr_ hq_; obtain rfl := Option.some.inj (ho_ : some _ = some o_); obtain ⟨cx, b87, s79, s95, s103, s57, _⟩ := hq_
                  obtain ⟨q109, hl79, rfl, _⟩ := hr_ 2 (by decide) (hw_ 2 (by kernel_rfl))
                  replace hl79 : Gk.look F_ 79 = some (.slice oa101 y96.1.length c102) := hl79
                  refine LW.b2s (xs := y96.1) s103 kUnd_24 kUnd_5 kUnd_9 wn rfl hl79 ?_
                  refine LW.nil ?_; intro a_ ha_
                  exact ⟨rfl, _, _, ha_, ⟨rfl, trivial⟩, Ke.refl, cx, b87, s79, s95, s103, s57, trivial⟩
                · intro o_ L_ F_ lab_ w_ ho_ hL_ hw_ hcl_ hb_ hr_ hq_; obtain rfl := Option.some.inj (ho_ : some _ = some o_); obtain ⟨cx, b87, s79, s95, s103, s57, _⟩ := hq_
                  obtain ⟨q110, hl78, rfl, _⟩ := hr_ 1 (by decide) (hw_ 1 (by kernel_rfl))
                  replace hl78 : Gk.look F_ 78 = some (strV y88.1) := hl78
                  obtain ⟨q111, hl80, rfl, _⟩ := hr_ 3 (by decide) (hw_ 3 (by kernel_rfl))
                  replace hl80 : Gk.look F_ 80 = some (strV y96.1) := hl80
                  refine LW.nes (letm_eq hx_x112) wn rfl hl78 hl80 ?_; intro x_ hx_; cases hx_
                  refine LW.nil ?_; intro a_ ha_
                  exact ⟨rfl, _, _, ha_, ⟨rfl, trivial⟩, Ke.refl, cx, b87, s79, s95, s103, s57, trivial⟩
                · intro o_ L_ F_ lab_ w_ ho_ hL_ hw_ hcl_ hb_ hr_ hq_; obtain rfl := Option.some.inj (ho_ : some _ = some o_); obtain ⟨cx, b87, s79, s95, s103, s57, _⟩ := hq_
                  obtain ⟨q113, hl81, rfl, _⟩ := hr_ 4 (by decide) (hw_ 4 (by kernel_rfl))
                  replace hl81 : Gk.look F_ 81 = some (.bool x112) := hl81
                  refine LW.move wn rfl hl81 ?_
                  refine LW.nil ?_; intro a_ ha_
                  exact ⟨rfl, _, _, ha_, ⟨rfl, trivial⟩, Ke.refl, cx, b87, s79, s95, s103, s57, trivial⟩
                · intro o_ L_ F_ lab_ w_ ho_ hL_ hw_ hcl_ hb_ hr_ hq_; obtain rfl := Option.some.inj (ho_ : some _ = some o_); obtain ⟨cx, b87, s79, s95, s103, s57, _⟩ := hq_
                  have hl13 := hb_ 13 _ rfl
                  obtain ⟨q129, hl82, rfl, _⟩ := hr_ 5 (by decide) (hw_ 5 (by kernel_rfl))
                  replace hl82 : Gk.look F_ 82 = some (.bool x112) := hl82
                  refine LW.move (ws 82 rfl (bk hl82 hb114)) rfl hl13 ?_
                  refine LW.nil ?_; intro a_ ha_
                  exact ⟨rfl, _, _, ha_, ⟨rfl, trivial⟩, Ke.refl, cx, b87, s79, s95, s103, s57, trivial⟩
                · intro o_ L_ F_ lab_ w_ ho_ hL_ hw_ hcl_ hb_ hr_ hq_; obtain rfl := Option.some.inj (ho_ : some _ = some o_); obtain ⟨cx, b87, s79, s95, s103, s57, _⟩ := hq_
                  have hl16 := hb_ 16 _ rfl
                  obtain ⟨q130, hl82, rfl, _⟩ := hr_ 5 (by decide) (hw_ 5 (by kernel_rfl))
                  replace hl82 : Gk.look F_ 82 = some (.bool x112) := hl82
                  refine LW.move (ws 82 rfl (bk hl82 hb114)) rfl hl16 ?_
                  refine LW.nil ?_; intro a_ ha_
                  exact ⟨rfl, _, _, ha_, ⟨rfl, trivial⟩, Ke.refl, cx, b87, s79, s95, s103, s57, trivial⟩
                · intro o_ L_ F_ lab_ w_ ho_ hL_ hw_ hcl_ hb_ hr_ hq_; obtain rfl := Option.some.inj (ho_ : some _ = some o_); obtain ⟨cx, b87, s79, s95, s103, s57, _⟩ := hq_
                  obtain ⟨q131, hl83, rfl, _⟩ := hr_ 6 (by decide) (hw_ 6 (by kernel_rfl))
                  replace hl83 : Gk.look F_ 83 = some (.bool y88.2.1) := hl83
                  obtain ⟨q132, hl84, rfl, _⟩ := hr_ 7 (by decide) (hw_ 7 (by kernel_rfl))
                  replace hl84 : Gk.look F_ 84 = some (.bool y96.2.1) := hl84
                  obtain ⟨q133, hl82, rfl, _⟩ := hr_ 5 (by decide) (hw_ 5 (by kernel_rfl))
                  replace hl82 : Gk.look F_ 82 = some (.bool x112) := hl82
                  refine LW.neb (letm_eq hx_x134) kUnd_4 (ws 82 rfl (bk hl82 hb114)) rfl hl83 hl84 ?_; intro x_ hx_; cases hx_
                  refine LW.nil ?_; intro a_ ha_
                  exact ⟨rfl, _, _, ha_, ⟨rfl, trivial⟩, Ke.refl, cx, b87, s79, s95, s103, s57, trivial⟩
                · intro o_ L_ F_ lab_ w_ ho_ hL_ hw_ hcl_ hb_ hr_ hq_; obtain rfl := Option.some.inj (ho_ : some _ = some o_); obtain ⟨cx, b87, s79, s95, s103, s57, _⟩ := hq_
                  obtain ⟨q135, hl82, rfl, _⟩ := hr_ 5 (by decide) (hw_ 5 (by kernel_rfl))
                  replace hl82 : Gk.look F_ 82 = some (.bool x112) := hl82
                  obtain ⟨q136, hl85, rfl, _⟩ := hr_ 8 (by decide) (hw_ 8 (by kernel_rfl))
                  replace hl85 : Gk.look F_ 85 = some (.bool x134) := hl85
                  refine LW.pick_f wn rfl (bk hl82 hb114) hl85 ?_
                  refine LW.nil ?_; intro a_ ha_
                  exact ⟨rfl, _, _, ha_, ⟨rfl, trivial⟩, Ke.refl, cx, b87, s79, s95, s103, s57, trivial⟩
                · intro o_ L_ F_ lab_ w_ ho_ hL_ hw_ hcl_ hb_ hr_ hq_; obtain rfl := Option.some.inj (ho_ : some _ = some o_); obtain ⟨cx, b87, s79, s95, s103, s57, _⟩ := hq_
                  obtain ⟨q137, hl86, rfl, _⟩ := hr_ 9 (by decide) (hw_ 9 (by kernel_rfl))
                  replace hl86 : Gk.look F_ 86 = some (.bool x134) := hl86
                  refine LW.move wn rfl hl86 ?_
                  refine LW.nil ?_; intro a_ ha_
                  exact ⟨rfl, _, _, ha_, ⟨rfl, trivial⟩, Ke.refl, cx, b87, s79, s95, s103, s57, trivial⟩
                · exact ob_skip (b' := true) 10 rfl (by kernel_rfl) (by decide) ⟨_, rfl⟩ (fun _ _ _ _ h_ => .inl (h_.1.trans (congrArg Value.bool hb138))) rfl rfl (fun _ _ _ => ⟨rfl, trivial⟩) (fun _ _ _ h_ => h_)
                · exact ob_skip (b' := true) 10 rfl (by kernel_rfl) (by decide) ⟨_, rfl⟩ (fun _ _ _ _ h_ => .inl (h_.1.trans (congrArg Value.bool hb138))) rfl rfl (fun _ _ _ => ⟨rfl, trivial⟩) (fun _ _ _ h_ => h_)
                · exact ob_skip (b' := true) 10 rfl (by kernel_rfl) (by decide) ⟨_, rfl⟩ (fun _ _ _ _ h_ => .inl (h_.1.trans (congrArg Value.bool hb138))) rfl rfl (fun _ _ _ => ⟨rfl, trivial⟩) (fun _ _ _ h_ => h_)
                · intro o_ L_ F_ lab_ w_ ho_ hL_ hw_ hcl_ hb_ hr_ hq_; obtain rfl := Option.some.inj (ho_ : some _ = some o_); obtain ⟨cx, b87, s79, s95, s103, s57, _⟩ := hq_
                  obtain ⟨q139, hl87, rfl, _⟩ := hr_ 10 (by decide) (hw_ 10 (by kernel_rfl))
                  replace hl87 : Gk.look F_ 87 = some (.bool x134) := hl87
                  obtain ⟨q140, hl90, rfl, _⟩ := hr_ 13 (by decide) (hw_ 13 (by kernel_rfl))
                  replace hl90 : Gk.look F_ 90 = some (undef) := hl90
                  refine LW.pick_t wn rfl (bk hl87 hb138) rfl ?_
                  refine LW.nil ?_; intro a_ ha_
                  exact ⟨rfl, _, _, ha_, ⟨rfl, trivial⟩, Ke.refl, cx, b87, s79, s95, s103, s57, trivial⟩
                · intro o_ L_ F_ lab_ w_ ho_ hL_ hw_ hcl_ hb_ hr_ hq_; obtain rfl := Option.some.inj (ho_ : some _ = some o_); obtain ⟨cx, b87, s79, s95, s103, s57, _⟩ := hq_
                  obtain ⟨q141, hl91, rfl, _⟩ := hr_ 14 (by decide) (hw_ 14 (by kernel_rfl))
                  replace hl91 : Gk.look F_ 91 = some (.bool true) := hl91
                  refine LW.move wn rfl hl91 ?_
                  refine LW.nil ?_; intro a_ ha_
                  exact ⟨rfl, _, _, ha_, ⟨rfl, trivial⟩, Ke.refl, cx, b87, s79, s95, s103, s57, trivial⟩
                · exact ob_skip (b' := true) 15 rfl (by kernel_rfl) (by decide) ⟨_, rfl⟩ (fun _ _ _ _ h_ => .inl h_.1) rfl rfl (fun _ _ _ => ⟨rfl, trivial⟩) (fun _ _ _ h_ => h_)
                · exact ob_skip (b' := true) 15 rfl (by kernel_rfl) (by decide) ⟨_, rfl⟩ (fun _ _ _ _ h_ => .inl h_.1) rfl rfl (fun _ _ _ => ⟨rfl, trivial⟩) (fun _ _ _ h_ => h_)
                · exact ob_skip (b' := true) 15 rfl (by kernel_rfl) (by decide) ⟨_, rfl⟩ (fun _ _ _ _ h_ => .inl h_.1) rfl rfl (fun _ _ _ => ⟨rfl, trivial⟩) (fun _ _ _ h_ => h_)
                · exact ob_skip (b' := true) 15 rfl (by kernel_rfl) (by decide) ⟨_, rfl⟩ (fun _ _ _ _ h_ => .inl h_.1) rfl rfl (fun _ _ _ => ⟨rfl, trivial⟩) (fun _ _ _ h_ => h_)
                · exact ob_skip (b' := true) 15 rfl (by kernel_rfl) (by decide) ⟨_, rfl⟩ (fun _ _ _ _ h_ => .inl h_.1) rfl rfl (fun _ _ _ => ⟨rfl, trivial⟩) (fun _ _ _ h_ => h_)
                · exact ob_skip (b' := true) 15 rfl (by kernel_rfl) (by decide) ⟨_, rfl⟩ (fun _ _ _ _ h_ => .inl h_.1) rfl rfl (fun _ _ _ => ⟨rfl, trivial⟩) (fun _ _ _ h_ => h_)
                · exact ob_skip (b' := true) 15 rfl (by kernel_rfl) (by decide) ⟨_, rfl⟩ (fun _ _ _ _ h_ => .inl h_.1) rfl rfl (fun _ _ _ => ⟨rfl, trivial⟩) (fun _ _ _ h_ => h_)
                · exact ob_skip (b' := true) 15 rfl (by kernel_rfl) (by decide) ⟨_, rfl⟩ (fun _ _ _ _ h_ => .inl h_.1) rfl rfl (fun _ _ _ => ⟨rfl, trivial⟩) (fun _ _ _ h_ => h_)
                · exact ob_skip (b' := true) 15 rfl (by kernel_rfl) (by decide) ⟨_, rfl⟩ (fun _ _ _ _ h_ => .inl h_.1) rfl rfl (fun _ _ _ => ⟨rfl, trivial⟩) (fun _ _ _ h_ => h_)
                · exact ob_skip (b' := true) 15 rfl (by kernel_rfl) (by decide) ⟨_, rfl⟩ (fun _ _ _ _ h_ => .inl h_.1) rfl rfl (fun _ _ _ => ⟨rfl, trivial⟩) (fun _ _ _ h_ => h_)
                · exact ob_skip (b' := true) 15 rfl (by kernel_rfl) (by decide) ⟨_, rfl⟩ (fun _ _ _ _ h_ => .inl h_.1) rfl rfl (fun _ _ _ => ⟨rfl, trivial⟩) (fun _ _ _ h_ => h_)
                · exact ob_skip (b' := true) 15 rfl (by kernel_rfl) (by decide) ⟨_, rfl⟩ (fun _ _ _ _ h_ => .inl h_.1) rfl rfl (fun _ _ _ => ⟨rfl, trivial⟩) (fun _ _ _ h_ => h_)
                · exact ob_skip (b' := true) 15 rfl (by kernel_rfl) (by decide) ⟨_, rfl⟩ (fun _ _ _ _ h_ => .inl h_.1) rfl rfl (fun _ _ _ => ⟨rfl, trivial⟩) (fun _ _ _ h_ => h_)
                · intro o_ L_ F_ lab_ w_ ho_ hL_ hw_ hcl_ hb_ hr_ hq_; obtain rfl := Option.some.inj (ho_ : some _ = some o_); obtain ⟨cx, b87, s79, s95, s103, s57, _⟩ := hq_
                  obtain ⟨q142, hl92, rfl, _⟩ := hr_ 15 (by decide) (hw_ 15 (by kernel_rfl))
                  replace hl92 : Gk.look F_ 92 = some (.bool true) := hl92
                  obtain ⟨q143, hl105, rfl, _⟩ := hr_ 28 (by decide) (hw_ 28 (by kernel_rfl))
                  replace hl105 : Gk.look F_ 105 = some (undef) := hl105
                  refine LW.pick_t wn rfl hl92 rfl ?_
                  refine LW.nil ?_; intro a_ ha_
                  exact ⟨rfl, _, _, ha_, ⟨rfl, trivial⟩, Ke.refl, cx, b87, s79, s95, s103, s57, trivial⟩
                · intro o_ L_ F_ lab_ w_ ho_ hL_ hw_ hcl_ hb_ hr_ hq_; obtain rfl := Option.some.inj (ho_ : some _ = some o_); obtain ⟨cx, b87, s79, s95, s103, s57, _⟩ := hq_
                  obtain ⟨q144, hl106, rfl, _⟩ := hr_ 29 (by decide) (hw_ 29 (by kernel_rfl))
                  replace hl106 : Gk.look F_ 106 = some (.bool true) := hl106
                  refine LW.move wn rfl hl106 ?_
                  refine LW.nil ?_; intro a_ ha_
                  exact ⟨rfl, _, _, ha_, ⟨rfl, trivial⟩, Ke.refl, cx, b87, s79, s95, s103, s57, trivial⟩
                · exact ob_skip (b' := true) 30 rfl (by kernel_rfl) (by decide) ⟨_, rfl⟩ (fun _ _ _ _ h_ => .inl h_.1) rfl rfl (fun _ _ _ => ⟨rfl, trivial⟩) (fun _ _ _ h_ => h_)
                · exact ob_skip (b' := true) 30 rfl (by kernel_rfl) (by decide) ⟨_, rfl⟩ (fun _ _ _ _ h_ => .inl h_.1) rfl rfl (fun _ _ _ => ⟨rfl, trivial⟩) (fun _ _ _ h_ => h_)
                · exact ob_skip (b' := true) 30 rfl (by kernel_rfl) (by decide) ⟨_, rfl⟩ (fun _ _ _ _ h_ => .inl h_.1) rfl rfl (fun _ _ _ => ⟨rfl, trivial⟩) (fun _ _ _ h_ => h_)
                · exact ob_skip (b' := true) 30 rfl (by kernel_rfl) (by decide) ⟨_, rfl⟩ (fun _ _ _ _ h_ => .inl h_.1) rfl rfl (fun _ _ _ => ⟨rfl, trivial⟩) (fun _ _ _ h_ => h_)
                · exact ob_skip (b' := true) 30 rfl (by kernel_rfl) (by decide) ⟨_, rfl⟩ (fun _ _ _ _ h_ => .inl h_.1) rfl rfl (fun _ _ _ => ⟨rfl, trivial⟩) (fun _ _ _ h_ => h_)
                · exact ob_skip (b' := true) 30 rfl (by kernel_rfl) (by decide) ⟨_, rfl⟩ (fun _ _ _ _ h_ => .inl h_.1) rfl rfl (fun _ _ _ => ⟨rfl, trivial⟩) (fun _ _ _ h_ => h_)
                · exact ob_skip (b' := true) 30 rfl (by kernel_rfl) (by decide) ⟨_, rfl⟩ (fun _ _ _ _ h_ => .inl h_.1) rfl rfl (fun _ _ _ => ⟨rfl, trivial⟩) (fun _ _ _ h_ => h_)
                · exact ob_skip (b' := true) 30 rfl (by kernel_rfl) (by decide) ⟨_, rfl⟩ (fun _ _ _ _ h_ => .inl h_.1) rfl rfl (fun _ _ _ => ⟨rfl, trivial⟩) (fun _ _ _ h_ => h_)
                · exact ob_skip (b' := true) 30 rfl (by kernel_rfl) (by decide) ⟨_, rfl⟩ (fun _ _ _ _ h_ => .inl h_.1) rfl rfl (fun _ _ _ => ⟨rfl, trivial⟩) (fun _ _ _ h_ => h_)
                · exact ob_skip (b' := true) 30 rfl (by kernel_rfl) (by decide) ⟨_, rfl⟩ (fun _ _ _ _ h_ => .inl h_.1) rfl rfl (fun _ _ _ => ⟨rfl, trivial⟩) (fun _ _ _ h_ => h_)
                · exact ob_skip (b' := true) 30 rfl (by kernel_rfl) (by decide) ⟨_, rfl⟩ (fun _ _ _ _ h_ => .inl h_.1) rfl rfl (fun _ _ _ => ⟨rfl, trivial⟩) (fun _ _ _ h_ => h_)
                · intro o_ L_ F_ lab_ w_ ho_ hL_ hw_ hcl_ hb_ hr_ hq_; obtain rfl := Option.some.inj (ho_ : some _ = some o_); obtain ⟨cx, b87, s79, s95, s103, s57, _⟩ := hq_
                  obtain ⟨q145, hl107, rfl, _⟩ := hr_ 30 (by decide) (hw_ 30 (by kernel_rfl))
                  replace hl107 : Gk.look F_ 107 = some (.bool true) := hl107
                  obtain ⟨q146, hl118, rfl, _⟩ := hr_ 41 (by decide) (hw_ 41 (by kernel_rfl))
                  replace hl118 : Gk.look F_ 118 = some (undef) := hl118
                  refine LW.pick_t wn rfl hl107 rfl ?_
                  refine LW.nil ?_; intro a_ ha_
                  exact ⟨rfl, _, _, ha_, ⟨rfl, trivial⟩, Ke.refl, cx, b87, s79, s95, s103, s57, trivial⟩
              · intro F_ lab_ w_ hb_ hr_ hq_; obtain ⟨cx, b87, s79, s95, s103, s57, _⟩ := hq_
                obtain ⟨q149, hl119, rfl, _⟩ := hr_ 42 (by decide)
                refine LW.sub (G := [(11, .pointer (some ⟨g80, 0, none⟩)), (12, .slice oa93 y88.1.length c94), (13, .bool y88.2.1), (14, .int .i64 y88.2.2), (15, .slice oa101 y96.1.length c102), (16, .bool y96.2.1), (17, .int .i64 y96.2.2), (49, .slice oa54 ([(S_t50.mk a0 a1 a2), (S_t50.mk a0 y32 x42), (S_t50.mk y24 x48 y49)]).length c55), (50, .int .i64 (([(S_t50.mk a0 a1 a2), (S_t50.mk a0 y32 x42), (S_t50.mk y24 x48 y49)]).length : Int)), (51, .int .i64 ((k70 : Nat) : Int)), (119, .bool true)]) ⟨hb_ 11 _ rfl, hb_ 12 _ rfl, hb_ 13 _ rfl, hb_ 14 _ rfl, hb_ 15 _ rfl, hb_ 16 _ rfl, hb_ 17 _ rfl, hb_ 49 _ rfl, hb_ 50 _ rfl, hb_ 51 _ rfl, hl119, trivial⟩ ?_
                simp only [List.drop_succ_cons, List.drop_nil, List.drop_zero]
                refine LW.nil ?_
                obtain rfl := Option.some.inj hm
                refine EW.sub (G := [(49, .slice oa54 ([(S_t50.mk a0 a1 a2), (S_t50.mk a0 y32 x42), (S_t50.mk y24 x48 y49)]).length c55), (50, .int .i64 (([(S_t50.mk a0 a1 a2), (S_t50.mk a0 y32 x42), (S_t50.mk y24 x48 y49)]).length : Int)), (51, .int .i64 ((k70 : Nat) : Int)), (119, .bool true)]) ⟨rfl, rfl, rfl, rfl, trivial⟩ ?_
                exact EW.join_n ⟨_, rfl, cx, s57, trivial⟩
            · replace hm := cond_f hm hb138
              obtain ⟨x155, hx_x155, hm_⟩ := letm_some hm; clear hm; have hm := hm_; clear hm_
              rcases Bool.eq_false_or_eq_true x155 with hb159 | hb159
              · replace hm := cond_t hm hb159
                refine CW.sub (G := [(11, .pointer (some ⟨g80, 0, none⟩)), (12, .slice oa93 y88.1.length c94), (13, .bool y88.2.1), (14, .int .i64 y88.2.2), (15, .slice oa101 y96.1.length c102), (16, .bool y96.2.1), (17, .int .i64 y96.2.2), (49, .slice oa54 ([(S_t50.mk a0 a1 a2), (S_t50.mk a0 y32 x42), (S_t50.mk y24 x48 y49)]).length c55), (50, .int .i64 (([(S_t50.mk a0 a1 a2), (S_t50.mk a0 y32 x42), (S_t50.mk y24 x48 y49)]).length : Int)), (51, .int .i64 ((k70 : Nat) : Int))]) ⟨rfl, rfl, rfl, rfl, rfl, rfl, rfl, rfl, rfl, rfl, trivial⟩ ?_
                refine CW.drawL (fun i_ => []) (fun i_ => by (try dsimp only); (repeat' split) <;> rfl) kMix_ 43 (by kernel_rfl) cx.top ?_
                intro w165 e166
                replace cx := cx.step e166 rfl
                replace b87 := b87.step e166 rfl
                replace s79 := s79.step e166
                replace s95 := s95.step e166
                replace s103 := s103.step e166
                replace s57 := s57.step e166
                clear e166
                refine ⟨[(fun L_ lab_ w_ v_ => v_ = .slice oa93 y88.1.length c94 ∧ True),
    (fun L_ lab_ w_ v_ => v_ = strV y88.1 ∧ True),
    (fun L_ lab_ w_ v_ => v_ = .slice oa101 y96.1.length c102 ∧ True),
    (fun L_ lab_ w_ v_ => v_ = strV y96.1 ∧ True),
    (fun L_ lab_ w_ v_ => v_ = .bool x112 ∧ True),
    (fun L_ lab_ w_ v_ => v_ = .bool x112 ∧ True),
    (fun L_ lab_ w_ v_ => v_ = .bool y88.2.1 ∧ True),
    (fun L_ lab_ w_ v_ => v_ = .bool y96.2.1 ∧ True),
    (fun L_ lab_ w_ v_ => v_ = .bool x134 ∧ True),
    (fun L_ lab_ w_ v_ => v_ = .bool x134 ∧ True),
    (fun L_ lab_ w_ v_ => v_ = .bool x134 ∧ True),
    (fun L_ lab_ w_ v_ => v_ = .int .i64 y88.2.2 ∧ True),
    (fun L_ lab_ w_ v_ => v_ = .int .i64 y96.2.2 ∧ True),
    (fun L_ lab_ w_ v_ => v_ = .bool x155 ∧ True),
    (fun L_ lab_ w_ v_ => v_ = .bool x155 ∧ True),
    (fun L_ lab_ w_ v_ => v_ = .bool x155 ∧ True),
    (fun L_ lab_ w_ v_ => v_ = undef ∧ True),
    (fun L_ lab_ w_ v_ => v_ = undef ∧ True),
    (fun L_ lab_ w_ v_ => v_ = undef ∧ True),
    (fun L_ lab_ w_ v_ => v_ = undef ∧ True),
    (fun L_ lab_ w_ v_ => v_ = undef ∧ True),
    (fun L_ lab_ w_ v_ => v_ = undef ∧ True),
    (fun L_ lab_ w_ v_ => v_ = undef ∧ True),
    (fun L_ lab_ w_ v_ => v_ = undef ∧ True),
    (fun L_ lab_ w_ v_ => v_ = undef ∧ True),
    (fun L_ lab_ w_ v_ => v_ = undef ∧ True),
    (fun L_ lab_ w_ v_ => v_ = undef ∧ True),
    (fun L_ lab_ w_ v_ => v_ = undef ∧ True),
    (fun L_ lab_ w_ v_ => v_ = undef ∧ True),
    (fun L_ lab_ w_ v_ => v_ = .bool true ∧ True),
    (fun L_ lab_ w_ v_ => v_ = .bool true ∧ True),
    (fun L_ lab_ w_ v_ => v_ = undef ∧ True),
    (fun L_ lab_ w_ v_ => v_ = undef ∧ True),
    (fun L_ lab_ w_ v_ => v_ = undef ∧ True),
    (fun L_ lab_ w_ v_ => v_ = undef ∧ True),
    (fun L_ lab_ w_ v_ => v_ = undef ∧ True),
    (fun L_ lab_ w_ v_ => v_ = undef ∧ True),
    (fun L_ lab_ w_ v_ => v_ = undef ∧ True),
    (fun L_ lab_ w_ v_ => v_ = undef ∧ True),
    (fun L_ lab_ w_ v_ => v_ = undef ∧ True),
    (fun L_ lab_ w_ v_ => v_ = undef ∧ True),
    (fun L_ lab_ w_ v_ => v_ = undef ∧ True),
    (fun L_ lab_ w_ v_ => v_ = .bool true ∧ True)], (fun L_ lab_ w_ => Cx [] w lab w_ lab_ ∧ Box lab_ w_ 21 g80 50 [.slice oa77 x72.b.length c78, .int .i64 x72.n, .int .i64 x72.s] ∧ SL Rep.u8 lab_ w_ oa77 c78 x72.b ∧ SL Rep.u8 lab_ w_ oa93 c94 y88.1 ∧ SL Rep.u8 lab_ w_ oa101 c102 y96.1 ∧ SL R_t50 lab_ w_ oa54 c55 ([(S_t50.mk a0 a1 a2), (S_t50.mk a0 y32 x42), (S_t50.mk y24 x48 y49)]) ∧ True), ?_, ⟨cx, b87, s79, s95, s103, s57, trivial⟩, ?_, ?_⟩
                · exact ⟨by rintro i_ L_ lab_ w_ lab2_ w2_ v_ hne_ hd_ hk_ hp_ ⟨hv_, _⟩; exact ⟨hv_, trivial⟩, by rintro i_ L_ lab_ w_ lab2_ w2_ v_ hne_ hd_ hk_ hp_ ⟨hv_, _⟩; exact ⟨hv_, trivial⟩, by rintro i_ L_ lab_ w_ lab2_ w2_ v_ hne_ hd_ hk_ hp_ ⟨hv_, _⟩; exact ⟨hv_, trivial⟩, by rintro i_ L_ lab_ w_ lab2_ w2_ v_ hne_ hd_ hk_ hp_ ⟨hv_, _⟩; exact ⟨hv_, trivial⟩, by rintro i_ L_ lab_ w_ lab2_ w2_ v_ hne_ hd_ hk_ hp_ ⟨hv_, _⟩; exact ⟨hv_, trivial⟩, by rintro i_ L_ lab_ w_ lab2_ w2_ v_ hne_ hd_ hk_ hp_ ⟨hv_, _⟩; exact ⟨hv_, trivial⟩, by rintro i_ L_ lab_ w_ lab2_ w2_ v_ hne_ hd_ hk_ hp_ ⟨hv_, _⟩; exact ⟨hv_, trivial⟩, by rintro i_ L_ lab_ w_ lab2_ w2_ v_ hne_ hd_ hk_ hp_ ⟨hv_, _⟩; exact ⟨hv_, trivial⟩, by rintro i_ L_ lab_ w_ lab2_ w2_ v_ hne_ hd_ hk_ hp_ ⟨hv_, _⟩; exact ⟨hv_, trivial⟩, by rintro i_ L_ lab_ w_ lab2_ w2_ v_ hne_ hd_ hk_ hp_ ⟨hv_, _⟩; exact ⟨hv_, trivial⟩, by rintro i_ L_ lab_ w_ lab2_ w2_ v_ hne_ hd_ hk_ hp_ ⟨hv_, _⟩; exact ⟨hv_, trivial⟩, by rintro i_ L_ lab_ w_ lab2_ w2_ v_ hne_ hd_ hk_ hp_ ⟨hv_, _⟩; exact ⟨hv_, trivial⟩, by rintro i_ L_ lab_ w_ lab2_ w2_ v_ hne_ hd_ hk_ hp_ ⟨hv_, _⟩; exact ⟨hv_, trivial⟩, by rintro i_ L_ lab_ w_ lab2_ w2_ v_ hne_ hd_ hk_ hp_ ⟨hv_, _⟩; exact ⟨hv_, trivial⟩, by rintro i_ L_ lab_ w_ lab2_ w2_ v_ hne_ hd_ hk_ hp_ ⟨hv_, _⟩; exact ⟨hv_, trivial⟩, by rintro i_ L_ lab_ w_ lab2_ w2_ v_ hne_ hd_ hk_ hp_ ⟨hv_, _⟩; exact ⟨hv_, trivial⟩, by rintro i_ L_ lab_ w_ lab2_ w2_ v_ hne_ hd_ hk_ hp_ ⟨hv_, _⟩; exact ⟨hv_, trivial⟩, by rintro i_ L_ lab_ w_ lab2_ w2_ v_ hne_ hd_ hk_ hp_ ⟨hv_, _⟩; exact ⟨hv_, trivial⟩, by rintro i_ L_ lab_ w_ lab2_ w2_ v_ hne_ hd_ hk_ hp_ ⟨hv_, _⟩; exact ⟨hv_, trivial⟩, by rintro i_ L_ lab_ w_ lab2_ w2_ v_ hne_ hd_ hk_ hp_ ⟨hv_, _⟩; exact ⟨hv_, trivial⟩, by rintro i_ L_ lab_ w_ lab2_ w2_ v_ hne_ hd_ hk_ hp_ ⟨hv_, _⟩; exact ⟨hv_, trivial⟩, by rintro i_ L_ lab_ w_ lab2_ w2_ v_ hne_ hd_ hk_ hp_ ⟨hv_, _⟩; exact ⟨hv_, trivial⟩, by rintro i_ L_ lab_ w_ lab2_ w2_ v_ hne_ hd_ hk_ hp_ ⟨hv_, _⟩; exact ⟨hv_, trivial⟩, by rintro i_ L_ lab_ w_ lab2_ w2_ v_ hne_ hd_ hk_ hp_ ⟨hv_, _⟩; exact ⟨hv_, trivial⟩, by rintro i_ L_ lab_ w_ lab2_ w2_ v_ hne_ hd_ hk_ hp_ ⟨hv_, _⟩; exact ⟨hv_, trivial⟩, by rintro i_ L_ lab_ w_ lab2_ w2_ v_ hne_ hd_ hk_ hp_ ⟨hv_, _⟩; exact ⟨hv_, trivial⟩, by rintro i_ L_ lab_ w_ lab2_ w2_ v_ hne_ hd_ hk_ hp_ ⟨hv_, _⟩; exact ⟨hv_, trivial⟩, by rintro i_ L_ lab_ w_ lab2_ w2_ v_ hne_ hd_ hk_ hp_ ⟨hv_, _⟩; exact ⟨hv_, trivial⟩, by rintro i_ L_ lab_ w_ lab2_ w2_ v_ hne_ hd_ hk_ hp_ ⟨hv_, _⟩; exact ⟨hv_, trivial⟩, by rintro i_ L_ lab_ w_ lab2_ w2_ v_ hne_ hd_ hk_ hp_ ⟨hv_, _⟩; exact ⟨hv_, trivial⟩, by rintro i_ L_ lab_ w_ lab2_ w2_ v_ hne_ hd_ hk_ hp_ ⟨hv_, _⟩; exact ⟨hv_, trivial⟩, by rintro i_ L_ lab_ w_ lab2_ w2_ v_ hne_ hd_ hk_ hp_ ⟨hv_, _⟩; exact ⟨hv_, trivial⟩, by rintro i_ L_ lab_ w_ lab2_ w2_ v_ hne_ hd_ hk_ hp_ ⟨hv_, _⟩; exact ⟨hv_, trivial⟩, by rintro i_ L_ lab_ w_ lab2_ w2_ v_ hne_ hd_ hk_ hp_ ⟨hv_, _⟩; exact ⟨hv_, trivial⟩, by rintro i_ L_ lab_ w_ lab2_ w2_ v_ hne_ hd_ hk_ hp_ ⟨hv_, _⟩; exact ⟨hv_, trivial⟩, by rintro i_ L_ lab_ w_ lab2_ w2_ v_ hne_ hd_ hk_ hp_ ⟨hv_, _⟩; exact ⟨hv_, trivial⟩, by rintro i_ L_ lab_ w_ lab2_ w2_ v_ hne_ hd_ hk_ hp_ ⟨hv_, _⟩; exact ⟨hv_, trivial⟩, by rintro i_ L_ lab_ w_ lab2_ w2_ v_ hne_ hd_ hk_ hp_ ⟨hv_, _⟩; exact ⟨hv_, trivial⟩, by rintro i_ L_ lab_ w_ lab2_ w2_ v_ hne_ hd_ hk_ hp_ ⟨hv_, _⟩; exact ⟨hv_, trivial⟩, by rintro i_ L_ lab_ w_ lab2_ w2_ v_ hne_ hd_ hk_ hp_ ⟨hv_, _⟩; exact ⟨hv_, trivial⟩, by rintro i_ L_ lab_ w_ lab2_ w2_ v_ hne_ hd_ hk_ hp_ ⟨hv_, _⟩; exact ⟨hv_, trivial⟩, by rintro i_ L_ lab_ w_ lab2_ w2_ v_ hne_ hd_ hk_ hp_ ⟨hv_, _⟩; exact ⟨hv_, trivial⟩, by rintro i_ L_ lab_ w_ lab2_ w2_ v_ hne_ hd_ hk_ hp_ ⟨hv_, _⟩; exact ⟨hv_, trivial⟩, trivial⟩
                · refine (ob_succ (ob_succ (ob_succ (ob_succ (ob_succ (ob_succ (ob_succ (ob_succ (ob_succ (ob_succ (ob_succ (ob_succ (ob_succ (ob_succ (ob_succ (ob_succ (ob_succ (ob_succ (ob_succ (ob_succ (ob_succ (ob_succ (ob_succ (ob_succ (ob_succ (ob_succ (ob_succ (ob_succ (ob_succ (ob_succ (ob_succ (ob_succ (ob_succ (ob_succ (ob_succ (ob_succ (ob_succ (ob_succ (ob_succ (ob_succ (ob_succ (ob_succ (ob_succ ob_nil ?_) ?_) ?_) ?_) ?_) ?_) ?_) ?_) ?_) ?_) ?_) ?_) ?_) ?_) ?_) ?_) ?_) ?_) ?_) ?_) ?_) ?_) ?_) ?_) ?_) ?_) ?_) ?_) ?_) ?_) ?_) ?_) ?_) ?_) ?_) ?_) ?_) ?_) ?_) ?_) ?_) ?_) ?_)
                  · exact ob_moveb (v := .slice oa93 y88.1.length c94) rfl (fun _ h_ => h_ _ _ rfl) rfl (fun _ _ _ => ⟨rfl, trivial⟩) (fun _ _ _ h_ => h_)
                  · intro o_ L_ F_ lab_ w_ ho_ hL_ hw_ hcl_ hb_ hr_ hq_; obtain rfl := Option.some.inj (ho_ : some _ = some o_); obtain ⟨cx, b87, s79, s95, s103, s57, _⟩ := hq_
                    obtain ⟨q108, hl77, rfl, _⟩ := hr_ 0 (by decide) (hw_ 0 (by kernel_rfl))
                    replace hl77 : Gk.look F_ 77 = some (.slice oa93 y88.1.length c94) := hl77
                    refine LW.b2s (xs := y88.1) s95 kUnd_24 kUnd_5 kUnd_9 wn rfl hl77 ?_
                    refine LW.nil ?_; intro a_ ha_
                    exact ⟨rfl, _, _, ha_, ⟨rfl, trivial⟩, Ke.refl, cx, b87, s79, s95, s103, s57, trivial⟩
                  · exact ob_moveb (v := .slice oa101 y96.1.length c102) rfl (fun _ h_ => h_ _ _ rfl) rfl (fun _ _ _ => ⟨rfl, trivial⟩) (fun _ _ _ h_ => h_)
                  · intro o_ L_ F_ lab_ w_ ho_ hL_ hw_ hcl_ hb_ hr_ hq_; obtain rfl := Option.some.inj (ho_ : some _ = some o_); obtain ⟨cx, b87, s79, s95, s103, s57, _⟩ := hq_
                    obtain ⟨q109, hl79, rfl, _⟩ := hr_ 2 (by decide) (hw_ 2 (by kernel_rfl))
                    replace hl79 : Gk.look F_ 79 = some (.slice oa101 y96.1.length c102) := hl79
                    refine LW.b2s (xs := y96.1) s103 kUnd_24 kUnd_5 kUnd_9 wn rfl hl79 ?_
                    refine LW.nil ?_; intro a_ ha_
                    exact ⟨rfl, _, _, ha_, ⟨rfl, trivial⟩, Ke.refl, cx, b87, s79, s95, s103, s57, trivial⟩
                  · intro o_ L_ F_ lab_ w_ ho_ hL_ hw_ hcl_ hb_ hr_ hq_; obtain rfl := Option.some.inj (ho_ : some _ = some o_); obtain ⟨cx, b87, s79, s95, s103, s57, _⟩ := hq_
                    obtain ⟨q110, hl78, rfl, _⟩ := hr_ 1 (by decide) (hw_ 1 (by kernel_rfl))
                    replace hl78 : Gk.look F_ 78 = some (strV y88.1) := hl78
                    obtain ⟨q111, hl80, rfl, _⟩ := hr_ 3 (by decide) (hw_ 3 (by kernel_rfl))
                    replace hl80 : Gk.look F_ 80 = some (strV y96.1) := hl80
                    refine LW.nes (letm_eq hx_x112) wn rfl hl78 hl80 ?_; intro x_ hx_; cases hx_
                    refine LW.nil ?_; intro a_ ha_
                    exact ⟨rfl, _, _, ha_, ⟨rfl, trivial⟩, Ke.refl, cx, b87, s79, s95, s103, s57, trivial⟩
                  · intro o_ L_ F_ lab_ w_ ho_ hL_ hw_ hcl_ hb_ hr_ hq_; obtain rfl := Option.some.inj (ho_ : some _ = some o_); obtain ⟨cx, b87, s79, s95, s103, s57, _⟩ := hq_
                    obtain ⟨q113, hl81, rfl, _⟩ := hr_ 4 (by decide) (hw_ 4 (by kernel_rfl))
                    replace hl81 : Gk.look F_ 81 = some (.bool x112) := hl81
                    refine LW.move wn rfl hl81 ?_
                    refine LW.nil ?_; intro a_ ha_
                    exact ⟨rfl, _, _, ha_, ⟨rfl, trivial⟩, Ke.refl, cx, b87, s79, s95, s103, s57, trivial⟩
                  · intro o_ L_ F_ lab_ w_ ho_ hL_ hw_ hcl_ hb_ hr_ hq_; obtain rfl := Option.some.inj (ho_ : some _ = some o_); obtain ⟨cx, b87, s79, s95, s103, s57, _⟩ := hq_
                    have hl13 := hb_ 13 _ rfl
                    obtain ⟨q129, hl82, rfl, _⟩ := hr_ 5 (by decide) (hw_ 5 (by kernel_rfl))
                    replace hl82 : Gk.look F_ 82 = some (.bool x112) := hl82
                    refine LW.move (ws 82 rfl (bk hl82 hb114)) rfl hl13 ?_
                    refine LW.nil ?_; intro a_ ha_
                    exact ⟨rfl, _, _, ha_, ⟨rfl, trivial⟩, Ke.refl, cx, b87, s79, s95, s103, s57, trivial⟩
                  · intro o_ L_ F_ lab_ w_ ho_ hL_ hw_ hcl_ hb_ hr_ hq_; obtain rfl := Option.some.inj (ho_ : some _ = some o_); obtain ⟨cx, b87, s79, s95, s103, s57, _⟩ := hq_
                    have hl16 := hb_ 16 _ rfl
                    obtain ⟨q130, hl82, rfl, _⟩ := hr_ 5 (by decide) (hw_ 5 (by kernel_rfl))
                    replace hl82 : Gk.look F_ 82 = some (.bool x112) := hl82
                    refine LW.move (ws 82 rfl (bk hl82 hb114)) rfl hl16 ?_
                    refine LW.nil ?_; intro a_ ha_
                    exact ⟨rfl, _, _, ha_, ⟨rfl, trivial⟩, Ke.refl, cx, b87, s79, s95, s103, s57, trivial⟩
                  · intro o_ L_ F_ lab_ w_ ho_ hL_ hw_ hcl_ hb_ hr_ hq_; obtain rfl := Option.some.inj (ho_ : some _ = some o_); obtain ⟨cx, b87, s79, s95, s103, s57, _⟩ := hq_
                    obtain ⟨q131, hl83, rfl, _⟩ := hr_ 6 (by decide) (hw_ 6 (by kernel_rfl))
                    replace hl83 : Gk.look F_ 83 = some (.bool y88.2.1) := hl83
                    obtain ⟨q132, hl84, rfl, _⟩ := hr_ 7 (by decide) (hw_ 7 (by kernel_rfl))
                    replace hl84 : Gk.look F_ 84 = some (.bool y96.2.1) := hl84
                    obtain ⟨q133, hl82, rfl, _⟩ := hr_ 5 (by decide) (hw_ 5 (by kernel_rfl))
                    replace hl82 : Gk.look F_ 82 = some (.bool x112) := hl82
                    refine LW.neb (letm_eq hx_x134) kUnd_4 (ws 82 rfl (bk hl82 hb114)) rfl hl83 hl84 ?_; intro x_ hx_; cases hx_
                    refine LW.nil ?_; intro a_ ha_
                    exact ⟨rfl, _, _, ha_, ⟨rfl, trivial⟩, Ke.refl, cx, b87, s79, s95, s103, s57, trivial⟩
                  · intro o_ L_ F_ lab_ w_ ho_ hL_ hw_ hcl_ hb_ hr_ hq_; obtain rfl := Option.some.inj (ho_ : some _ = some o_); obtain ⟨cx, b87, s79, s95, s103, s57, _⟩ := hq_
                    obtain ⟨q135, hl82, rfl, _⟩ := hr_ 5 (by decide) (hw_ 5 (by kernel_rfl))
                    replace hl82 : Gk.look F_ 82 = some (.bool x112) := hl82
                    obtain ⟨q136, hl85, rfl, _⟩ := hr_ 8 (by decide) (hw_ 8 (by kernel_rfl))
                    replace hl85 : Gk.look F_ 85 = some (.bool x134) := hl85
                    refine LW.pick_f wn rfl (bk hl82 hb114) hl85 ?_
                    refine LW.nil ?_; intro a_ ha_
                    exact ⟨rfl, _, _, ha_, ⟨rfl, trivial⟩, Ke.refl, cx, b87, s79, s95, s103, s57, trivial⟩
                  · intro o_ L_ F_ lab_ w_ ho_ hL_ hw_ hcl_ hb_ hr_ hq_; obtain rfl := Option.some.inj (ho_ : some _ = some o_); obtain ⟨cx, b87, s79, s95, s103, s57, _⟩ := hq_
                    obtain ⟨q137, hl86, rfl, _⟩ := hr_ 9 (by decide) (hw_ 9 (by kernel_rfl))
                    replace hl86 : Gk.look F_ 86 = some (.bool x134) := hl86
                    refine LW.move wn rfl hl86 ?_
                    refine LW.nil ?_; intro a_ ha_
                    exact ⟨rfl, _, _, ha_, ⟨rfl, trivial⟩, Ke.refl, cx, b87, s79, s95, s103, s57, trivial⟩
                  · intro o_ L_ F_ lab_ w_ ho_ hL_ hw_ hcl_ hb_ hr_ hq_; obtain rfl := Option.some.inj (ho_ : some _ = some o_); obtain ⟨cx, b87, s79, s95, s103, s57, _⟩ := hq_
                    have hl14 := hb_ 14 _ rfl
                    obtain ⟨q150, hl87, rfl, _⟩ := hr_ 10 (by decide) (hw_ 10 (by kernel_rfl))
                    replace hl87 : Gk.look F_ 87 = some (.bool x134) := hl87
                    refine LW.move (ws 87 rfl (bk hl87 hb138)) rfl hl14 ?_
                    refine LW.nil ?_; intro a_ ha_
                    exact ⟨rfl, _, _, ha_, ⟨rfl, trivial⟩, Ke.refl, cx, b87, s79, s95, s103, s57, trivial⟩
                  · intro o_ L_ F_ lab_ w_ ho_ hL_ hw_ hcl_ hb_ hr_ hq_; obtain rfl := Option.some.inj (ho_ : some _ = some o_); obtain ⟨cx, b87, s79, s95, s103, s57, _⟩ := hq_
                    have hl17 := hb_ 17 _ rfl
                    obtain ⟨q151, hl87, rfl, _⟩ := hr_ 10 (by decide) (hw_ 10 (by kernel_rfl))
                    replace hl87 : Gk.look F_ 87 = some (.bool x134) := hl87
                    refine LW.move (ws 87 rfl (bk hl87 hb138)) rfl hl17 ?_
                    refine LW.nil ?_; intro a_ ha_
                    exact ⟨rfl, _, _, ha_, ⟨rfl, trivial⟩, Ke.refl, cx, b87, s79, s95, s103, s57, trivial⟩
                  · intro o_ L_ F_ lab_ w_ ho_ hL_ hw_ hcl_ hb_ hr_ hq_; obtain rfl := Option.some.inj (ho_ : some _ = some o_); obtain ⟨cx, b87, s79, s95, s103, s57, _⟩ := hq_
                    obtain ⟨q152, hl88, rfl, _⟩ := hr_ 11 (by decide) (hw_ 11 (by kernel_rfl))
                    replace hl88 : Gk.look F_ 88 = some (.int .i64 y88.2.2) := hl88
                    obtain ⟨q153, hl89, rfl, _⟩ := hr_ 12 (by decide) (hw_ 12 (by kernel_rfl))
                    replace hl89 : Gk.look F_ 89 = some (.int .i64 y96.2.2) := hl89
                    obtain ⟨q154, hl87, rfl, _⟩ := hr_ 10 (by decide) (hw_ 10 (by kernel_rfl))
                    replace hl87 : Gk.look F_ 87 = some (.bool x134) := hl87
                    refine LW.neq (letm_eq hx_x155) (ws 87 rfl (bk hl87 hb138)) rfl hl88 hl89 ?_; intro x_ hx_; cases hx_
                    refine LW.nil ?_; intro a_ ha_
                    exact ⟨rfl, _, _, ha_, ⟨rfl, trivial⟩, Ke.refl, cx, b87, s79, s95, s103, s57, trivial⟩
                  · intro o_ L_ F_ lab_ w_ ho_ hL_ hw_ hcl_ hb_ hr_ hq_; obtain rfl := Option.some.inj (ho_ : some _ = some o_); obtain ⟨cx, b87, s79, s95, s103, s57, _⟩ := hq_
                    obtain ⟨q156, hl87, rfl, _⟩ := hr_ 10 (by decide) (hw_ 10 (by kernel_rfl))
                    replace hl87 : Gk.look F_ 87 = some (.bool x134) := hl87
                    obtain ⟨q157, hl90, rfl, _⟩ := hr_ 13 (by decide) (hw_ 13 (by kernel_rfl))
                    replace hl90 : Gk.look F_ 90 = some (.bool x155) := hl90
                    refine LW.pick_f wn rfl (bk hl87 hb138) hl90 ?_
                    refine LW.nil ?_; intro a_ ha_
                    exact ⟨rfl, _, _, ha_, ⟨rfl, trivial⟩, Ke.refl, cx, b87, s79, s95, s103, s57, trivial⟩
                  · intro o_ L_ F_ lab_ w_ ho_ hL_ hw_ hcl_ hb_ hr_ hq_; obtain rfl := Option.some.inj (ho_ : some _ = some o_); obtain ⟨cx, b87, s79, s95, s103, s57, _⟩ := hq_
                    obtain ⟨q158, hl91, rfl, _⟩ := hr_ 14 (by decide) (hw_ 14 (by kernel_rfl))
                    replace hl91 : Gk.look F_ 91 = some (.bool x155) := hl91
                    refine LW.move wn rfl hl91 ?_
                    refine LW.nil ?_; intro a_ ha_
                    exact ⟨rfl, _, _, ha_, ⟨rfl, trivial⟩, Ke.refl, cx, b87, s79, s95, s103, s57, trivial⟩
                  · exact ob_skip (b' := true) 15 rfl (by kernel_rfl) (by decide) ⟨_, rfl⟩ (fun _ _ _ _ h_ => .inl (h_.1.trans (congrArg Value.bool hb159))) rfl rfl (fun _ _ _ => ⟨rfl, trivial⟩) (fun _ _ _ h_ => h_)
                  · exact ob_skip (b' := true) 15 rfl (by kernel_rfl) (by decide) ⟨_, rfl⟩ (fun _ _ _ _ h_ => .inl (h_.1.trans (congrArg Value.bool hb159))) rfl rfl (fun _ _ _ => ⟨rfl, trivial⟩) (fun _ _ _ h_ => h_)
                  · exact ob_skip (b' := true) 15 rfl (by kernel_rfl) (by decide) ⟨_, rfl⟩ (fun _ _ _ _ h_ => .inl (h_.1.trans (congrArg Value.bool hb159))) rfl rfl (fun _ _ _ => ⟨rfl, trivial⟩) (fun _ _ _ h_ => h_)
                  · exact ob_skip (b' := true) 15 rfl (by kernel_rfl) (by decide) ⟨_, rfl⟩ (fun _ _ _ _ h_ => .inl (h_.1.trans (congrArg Value.bool hb159))) rfl rfl (fun _ _ _ => ⟨rfl, trivial⟩) (fun _ _ _ h_ => h_)
                  · exact ob_skip (b' := true) 15 rfl (by kernel_rfl) (by decide) ⟨_, rfl⟩ (fun _ _ _ _ h_ => .inl (h_.1.trans (congrArg Value.bool hb159))) rfl rfl (fun _ _ _ => ⟨rfl, trivial⟩) (fun _ _ _ h_ => h_)
                  · exact ob_skip (b' := true) 15 rfl (by kernel_rfl) (by decide) ⟨_, rfl⟩ (fun _ _ _ _ h_ => .inl (h_.1.trans (congrArg Value.bool hb159))) rfl rfl (fun _ _ _ => ⟨rfl, trivial⟩) (fun _ _ _ h_ => h_)
                  · exact ob_skip (b' := true) 15 rfl (by kernel_rfl) (by decide) ⟨_, rfl⟩ (fun _ _ _ _ h_ => .inl (h_.1.trans (congrArg Value.bool hb159))) rfl rfl (fun _ _ _ => ⟨rfl, trivial⟩) (fun _ _ _ h_ => h_)
                  · exact ob_skip (b' := true) 15 rfl (by kernel_rfl) (by decide) ⟨_, rfl⟩ (fun _ _ _ _ h_ => .inl (h_.1.trans (congrArg Value.bool hb159))) rfl rfl (fun _ _ _ => ⟨rfl, trivial⟩) (fun _ _ _ h_ => h_)
                  · exact ob_skip (b' := true) 15 rfl (by kernel_rfl) (by decide) ⟨_, rfl⟩ (fun _ _ _ _ h_ => .inl (h_.1.trans (congrArg Value.bool hb159))) rfl rfl (fun _ _ _ => ⟨rfl, trivial⟩) (fun _ _ _ h_ => h_)
                  · exact ob_skip (b' := true) 15 rfl (by kernel_rfl) (by decide) ⟨_, rfl⟩ (fun _ _ _ _ h_ => .inl (h_.1.trans (congrArg Value.bool hb159))) rfl rfl (fun _ _ _ => ⟨rfl, trivial⟩) (fun _ _ _ h_ => h_)
                  · exact ob_skip (b' := true) 15 rfl (by kernel_rfl) (by decide) ⟨_, rfl⟩ (fun _ _ _ _ h_ => .inl (h_.1.trans (congrArg Value.bool hb159))) rfl rfl (fun _ _ _ => ⟨rfl, trivial⟩) (fun _ _ _ h_ => h_)
                  · exact ob_skip (b' := true) 15 rfl (by kernel_rfl) (by decide) ⟨_, rfl⟩ (fun _ _ _ _ h_ => .inl (h_.1.trans (congrArg Value.bool hb159))) rfl rfl (fun _ _ _ => ⟨rfl, trivial⟩) (fun _ _ _ h_ => h_)
                  · exact ob_skip (b' := true) 15 rfl (by kernel_rfl) (by decide) ⟨_, rfl⟩ (fun _ _ _ _ h_ => .inl (h_.1.trans (congrArg Value.bool hb159))) rfl rfl (fun _ _ _ => ⟨rfl, trivial⟩) (fun _ _ _ h_ => h_)
                  · intro o_ L_ F_ lab_ w_ ho_ hL_ hw_ hcl_ hb_ hr_ hq_; obtain rfl := Option.some.inj (ho_ : some _ = some o_); obtain ⟨cx, b87, s79, s95, s103, s57, _⟩ := hq_
                    obtain ⟨q160, hl92, rfl, _⟩ := hr_ 15 (by decide) (hw_ 15 (by kernel_rfl))
                    replace hl92 : Gk.look F_ 92 = some (.bool x155) := hl92
                    obtain ⟨q161, hl105, rfl, _⟩ := hr_ 28 (by decide) (hw_ 28 (by kernel_rfl))
                    replace hl105 : Gk.look F_ 105 = some (undef) := hl105
                    refine LW.pick_t wn rfl (bk hl92 hb159) rfl ?_
                    refine LW.nil ?_; intro a_ ha_
                    exact ⟨rfl, _, _, ha_, ⟨rfl, trivial⟩, Ke.refl, cx, b87, s79, s95, s103, s57, trivial⟩
                  · intro o_ L_ F_ lab_ w_ ho_ hL_ hw_ hcl_ hb_ hr_ hq_; obtain rfl := Option.some.inj (ho_ : some _ = some o_); obtain ⟨cx, b87, s79, s95, s103, s57, _⟩ := hq_
                    obtain ⟨q162, hl106, rfl, _⟩ := hr_ 29 (by decide) (hw_ 29 (by kernel_rfl))
                    replace hl106 : Gk.look F_ 106 = some (.bool true) := hl106
                    refine LW.move wn rfl hl106 ?_
                    refine LW.nil ?_; intro a_ ha_
                    exact ⟨rfl, _, _, ha_, ⟨rfl, trivial⟩, Ke.refl, cx, b87, s79, s95, s103, s57, trivial⟩
                  · exact ob_skip (b' := true) 30 rfl (by kernel_rfl) (by decide) ⟨_, rfl⟩ (fun _ _ _ _ h_ => .inl h_.1) rfl rfl (fun _ _ _ => ⟨rfl, trivial⟩) (fun _ _ _ h_ => h_)
                  · exact ob_skip (b' := true) 30 rfl (by kernel_rfl) (by decide) ⟨_, rfl⟩ (fun _ _ _ _ h_ => .inl h_.1) rfl rfl (fun _ _ _ => ⟨rfl, trivial⟩) (fun _ _ _ h_ => h_)
                  · exact ob_skip (b' := true) 30 rfl (by kernel_rfl) (by decide) ⟨_, rfl⟩ (fun _ _ _ _ h_ => .inl h_.1) rfl rfl (fun _ _ _ => ⟨rfl, trivial⟩) (fun _ _ _ h_ => h_)
                  · exact ob_skip (b' := true) 30 rfl (by kernel_rfl) (by decide) ⟨_, rfl⟩ (fun _ _ _ _ h_ => .inl h_.1) rfl rfl (fun _ _ _ => ⟨rfl, trivial⟩) (fun _ _ _ h_ => h_)
                  · exact ob_skip (b' := true) 30 rfl (by kernel_rfl) (by decide) ⟨_, rfl⟩ (fun _ _ _ _ h_ => .inl h_.1) rfl rfl (fun _ _ _ => ⟨rfl, trivial⟩) (fun _ _ _ h_ => h_)
                  · exact ob_skip (b' := true) 30 rfl (by kernel_rfl) (by decide) ⟨_, rfl⟩ (fun _ _ _ _ h_ => .inl h_.1) rfl rfl (fun _ _ _ => ⟨rfl, trivial⟩) (fun _ _ _ h_ => h_)
                  · exact ob_skip (b' := true) 30 rfl (by kernel_rfl) (by decide) ⟨_, rfl⟩ (fun _ _ _ _ h_ => .inl h_.1) rfl rfl (fun _ _ _ => ⟨rfl, trivial⟩) (fun _ _ _ h_ => h_)
                  · exact ob_skip (b' := true) 30 rfl (by kernel_rfl) (by decide) ⟨_, rfl⟩ (fun _ _ _ _ h_ => .inl h_.1) rfl rfl (fun _ _ _ => ⟨rfl, trivial⟩) (fun _ _ _ h_ => h_)
                  · exact ob_skip (b' := true) 30 rfl (by kernel_rfl) (by decide) ⟨_, rfl⟩ (fun _ _ _ _ h_ => .inl h_.1) rfl rfl (fun _ _ _ => ⟨rfl, trivial⟩) (fun _ _ _ h_ => h_)
                  · exact ob_skip (b' := true) 30 rfl (by kernel_rfl) (by decide) ⟨_, rfl⟩ (fun _ _ _ _ h_ => .inl h_.1) rfl rfl (fun _ _ _ => ⟨rfl, trivial⟩) (fun _ _ _ h_ => h_)
                  · exact ob_skip (b' := true) 30 rfl (by kernel_rfl) (by decide) ⟨_, rfl⟩ (fun _ _ _ _ h_ => .inl h_.1) rfl rfl (fun _ _ _ => ⟨rfl, trivial⟩) (fun _ _ _ h_ => h_)
                  · intro o_ L_ F_ lab_ w_ ho_ hL_ hw_ hcl_ hb_ hr_ hq_; obtain rfl := Option.some.inj (ho_ : some _ = some o_); obtain ⟨cx, b87, s79, s95, s103, s57, _⟩ := hq_
                    obtain ⟨q163, hl107, rfl, _⟩ := hr_ 30 (by decide) (hw_ 30 (by kernel_rfl))
                    replace hl107 : Gk.look F_ 107 = some (.bool true) := hl107
                    obtain ⟨q164, hl118, rfl, _⟩ := hr_ 41 (by decide) (hw_ 41 (by kernel_rfl))
                    replace hl118 : Gk.look F_ 118 = some (undef) := hl118
                    refine LW.pick_t wn rfl hl107 rfl ?_
                    refine LW.nil ?_; intro a_ ha_
                    exact ⟨rfl, _, _, ha_, ⟨rfl, trivial⟩, Ke.refl, cx, b87, s79, s95, s103, s57, trivial⟩
                · intro F_ lab_ w_ hb_ hr_ hq_; obtain ⟨cx, b87, s79, s95, s103, s57, _⟩ := hq_
                  obtain ⟨q167, hl119, rfl, _⟩ := hr_ 42 (by decide)
                  refine LW.sub (G := [(11, .pointer (some ⟨g80, 0, none⟩)), (12, .slice oa93 y88.1.length c94), (13, .bool y88.2.1), (14, .int .i64 y88.2.2), (15, .slice oa101 y96.1.length c102), (16, .bool y96.2.1), (17, .int .i64 y96.2.2), (49, .slice oa54 ([(S_t50.mk a0 a1 a2), (S_t50.mk a0 y32 x42), (S_t50.mk y24 x48 y49)]).length c55), (50, .int .i64 (([(S_t50.mk a0 a1 a2), (S_t50.mk a0 y32 x42), (S_t50.mk y24 x48 y49)]).length : Int)), (51, .int .i64 ((k70 : Nat) : Int)), (119, .bool true)]) ⟨hb_ 11 _ rfl, hb_ 12 _ rfl, hb_ 13 _ rfl, hb_ 14 _ rfl, hb_ 15 _ rfl, hb_ 16 _ rfl, hb_ 17 _ rfl, hb_ 49 _ rfl, hb_ 50 _ rfl, hb_ 51 _ rfl, hl119, trivial⟩ ?_
                  simp only [List.drop_succ_cons, List.drop_nil, List.drop_zero]
                  refine LW.nil ?_
                  obtain rfl := Option.some.inj hm
                  refine EW.sub (G := [(49, .slice oa54 ([(S_t50.mk a0 a1 a2), (S_t50.mk a0 y32 x42), (S_t50.mk y24 x48 y49)]).length c55), (50, .int .i64 (([(S_t50.mk a0 a1 a2), (S_t50.mk a0 y32 x42), (S_t50.mk y24 x48 y49)]).length : Int)), (51, .int .i64 ((k70 : Nat) : Int)), (119, .bool true)]) ⟨rfl, rfl, rfl, rfl, trivial⟩ ?_
                  exact EW.join_n ⟨_, rfl, cx, s57, trivial⟩
              · replace hm := cond_f hm hb159
                obtain ⟨y179, hx_y179, hm_⟩ := bnd_some hm; clear hm; have hm := hm_; clear hm_
                obtain ⟨y194, hx_y194, hm_⟩ := bnd_some hm; clear hm; have hm := hm_; clear hm_
                obtain ⟨x201, hx_x201, hm_⟩ := letm_some hm; clear hm; have hm := hm_; clear hm_
                rcases Bool.eq_false_or_eq_true x201 with hb205 | hb205
                · replace hm := cond_t hm hb205
                  refine CW.sub (G := [(11, .pointer (some ⟨g80, 0, none⟩)), (12, .slice oa93 y88.1.length c94), (13, .bool y88.2.1), (14, .int .i64 y88.2.2), (15, .slice oa101 y96.1.length c102), (16, .bool y96.2.1), (17, .int .i64 y96.2.2), (49, .slice oa54 ([(S_t50.mk a0 a1 a2), (S_t50.mk a0 y32 x42), (S_t50.mk y24 x48 y49)]).length c55), (50, .int .i64 (([(S_t50.mk a0 a1 a2), (S_t50.mk a0 y32 x42), (S_t50.mk y24 x48 y49)]).length : Int)), (51, .int .i64 ((k70 : Nat) : Int))]) ⟨rfl, rfl, rfl, rfl, rfl, rfl, rfl, rfl, rfl, rfl, trivial⟩ ?_
                  refine CW.drawL (fun i_ => []) (fun i_ => by (try dsimp only); (repeat' split) <;> rfl) kMix_ 43 (by kernel_rfl) cx.top ?_
                  intro w208 e209
                  replace cx := cx.step e209 rfl
                  replace b87 := b87.step e209 rfl
                  replace s79 := s79.step e209
                  replace s95 := s95.step e209
                  replace s103 := s103.step e209
                  replace s57 := s57.step e209
                  clear e209
                  refine ⟨[(fun L_ lab_ w_ v_ => v_ = .slice oa93 y88.1.length c94 ∧ True),
    (fun L_ lab_ w_ v_ => v_ = strV y88.1 ∧ True),
    (fun L_ lab_ w_ v_ => v_ = .slice oa101 y96.1.length c102 ∧ True),
    (fun L_ lab_ w_ v_ => v_ = strV y96.1 ∧ True),
    (fun L_ lab_ w_ v_ => v_ = .bool x112 ∧ True),
    (fun L_ lab_ w_ v_ => v_ = .bool x112 ∧ True),
    (fun L_ lab_ w_ v_ => v_ = .bool y88.2.1 ∧ True),
    (fun L_ lab_ w_ v_ => v_ = .bool y96.2.1 ∧ True),
    (fun L_ lab_ w_ v_ => v_ = .bool x134 ∧ True),
    (fun L_ lab_ w_ v_ => v_ = .bool x134 ∧ True),
    (fun L_ lab_ w_ v_ => v_ = .bool x134 ∧ True),
    (fun L_ lab_ w_ v_ => v_ = .int .i64 y88.2.2 ∧ True),
    (fun L_ lab_ w_ v_ => v_ = .int .i64 y96.2.2 ∧ True),
    (fun L_ lab_ w_ v_ => v_ = .bool x155 ∧ True),
    (fun L_ lab_ w_ v_ => v_ = .bool x155 ∧ True),
    (fun L_ lab_ w_ v_ => v_ = .bool x155 ∧ True),
    (fun L_ lab_ w_ v_ => v_ = .pointer (some ⟨g80, 0, none⟩) ∧ True),
    (fun L_ lab_ w_ v_ => v_ = .slice oa77 x72.b.length c78 ∧ True),
    (fun L_ lab_ w_ v_ => v_ = .int .i64 (x72.b.length : Int) ∧ True),
    (fun L_ lab_ w_ v_ => v_ = .pointer (some ⟨g80, 2, none⟩) ∧ True),
    (fun L_ lab_ w_ v_ => v_ = .int .i64 x72.s ∧ True),
    (fun L_ lab_ w_ v_ => v_ = .int .i64 y179 ∧ True),
    (fun L_ lab_ w_ v_ => v_ = .pointer (some ⟨g80, 0, none⟩) ∧ True),
    (fun L_ lab_ w_ v_ => v_ = .slice oa77 x72.b.length c78 ∧ True),
    (fun L_ lab_ w_ v_ => v_ = .int .i64 (x72.b.length : Int) ∧ True),
    (fun L_ lab_ w_ v_ => v_ = .pointer (some ⟨g80, 2, none⟩) ∧ True),
    (fun L_ lab_ w_ v_ => v_ = .int .i64 x72.s ∧ True),
    (fun L_ lab_ w_ v_ => v_ = .int .i64 y194 ∧ True),
    (fun L_ lab_ w_ v_ => v_ = .bool x201 ∧ True),
    (fun L_ lab_ w_ v_ => v_ = .bool x201 ∧ True),
    (fun L_ lab_ w_ v_ => v_ = .bool x201 ∧ True),
    (fun L_ lab_ w_ v_ => v_ = undef ∧ True),
    (fun L_ lab_ w_ v_ => v_ = undef ∧ True),
    (fun L_ lab_ w_ v_ => v_ = undef ∧ True),
    (fun L_ lab_ w_ v_ => v_ = undef ∧ True),
    (fun L_ lab_ w_ v_ => v_ = undef ∧ True),
    (fun L_ lab_ w_ v_ => v_ = undef ∧ True),
    (fun L_ lab_ w_ v_ => v_ = undef ∧ True),
    (fun L_ lab_ w_ v_ => v_ = undef ∧ True),
    (fun L_ lab_ w_ v_ => v_ = undef ∧ True),
    (fun L_ lab_ w_ v_ => v_ = undef ∧ True),
    (fun L_ lab_ w_ v_ => v_ = undef ∧ True),
    (fun L_ lab_ w_ v_ => v_ = .bool true ∧ True)], (fun L_ lab_ w_ => Cx [] w lab w_ lab_ ∧ Box lab_ w_ 21 g80 50 [.slice oa77 x72.b.length c78, .int .i64 x72.n, .int .i64 x72.s] ∧ SL Rep.u8 lab_ w_ oa77 c78 x72.b ∧ SL Rep.u8 lab_ w_ oa93 c94 y88.1 ∧ SL Rep.u8 lab_ w_ oa101 c102 y96.1 ∧ SL R_t50 lab_ w_ oa54 c55 ([(S_t50.mk a0 a1 a2), (S_t50.mk a0 y32 x42), (S_t50.mk y24 x48 y49)]) ∧ True), ?_, ⟨cx, b87, s79, s95, s103, s57, trivial⟩, ?_, ?_⟩
                  · exact ⟨by rintro i_ L_ lab_ w_ lab2_ w2_ v_ hne_ hd_ hk_ hp_ ⟨hv_, _⟩; exact ⟨hv_, trivial⟩, by rintro i_ L_ lab_ w_ lab2_ w2_ v_ hne_ hd_ hk_ hp_ ⟨hv_, _⟩; exact ⟨hv_, trivial⟩, by rintro i_ L_ lab_ w_ lab2_ w2_ v_ hne_ hd_ hk_ hp_ ⟨hv_, _⟩; exact ⟨hv_, trivial⟩, by rintro i_ L_ lab_ w_ lab2_ w2_ v_ hne_ hd_ hk_ hp_ ⟨hv_, _⟩; exact ⟨hv_, trivial⟩, by rintro i_ L_ lab_ w_ lab2_ w2_ v_ hne_ hd_ hk_ hp_ ⟨hv_, _⟩; exact ⟨hv_, trivial⟩, by rintro i_ L_ lab_ w_ lab2_ w2_ v_ hne_ hd_ hk_ hp_ ⟨hv_, _⟩; exact ⟨hv_, trivial⟩, by rintro i_ L_ lab_ w_ lab2_ w2_ v_ hne_ hd_ hk_ hp_ ⟨hv_, _⟩; exact ⟨hv_, trivial⟩, by rintro i_ L_ lab_ w_ lab2_ w2_ v_ hne_ hd_ hk_ hp_ ⟨hv_, _⟩; exact ⟨hv_, trivial⟩, by rintro i_ L_ lab_ w_ lab2_ w2_ v_ hne_ hd_ hk_ hp_ ⟨hv_, _⟩; exact ⟨hv_, trivial⟩, by rintro i_ L_ lab_ w_ lab2_ w2_ v_ hne_ hd_ hk_ hp_ ⟨hv_, _⟩; exact ⟨hv_, trivial⟩, by rintro i_ L_ lab_ w_ lab2_ w2_ v_ hne_ hd_ hk_ hp_ ⟨hv_, _⟩; exact ⟨hv_, trivial⟩, by rintro i_ L_ lab_ w_ lab2_ w2_ v_ hne_ hd_ hk_ hp_ ⟨hv_, _⟩; exact ⟨hv_, trivial⟩, by rintro i_ L_ lab_ w_ lab2_ w2_ v_ hne_ hd_ hk_ hp_ ⟨hv_, _⟩; exact ⟨hv_, trivial⟩, by rintro i_ L_ lab_ w_ lab2_ w2_ v_ hne_ hd_ hk_ hp_ ⟨hv_, _⟩; exact ⟨hv_, trivial⟩, by rintro i_ L_ lab_ w_ lab2_ w2_ v_ hne_ hd_ hk_ hp_ ⟨hv_, _⟩; exact ⟨hv_, trivial⟩, by rintro i_ L_ lab_ w_ lab2_ w2_ v_ hne_ hd_ hk_ hp_ ⟨hv_, _⟩; exact ⟨hv_, trivial⟩, by rintro i_ L_ lab_ w_ lab2_ w2_ v_ hne_ hd_ hk_ hp_ ⟨hv_, _⟩; exact ⟨hv_, trivial⟩, by rintro i_ L_ lab_ w_ lab2_ w2_ v_ hne_ hd_ hk_ hp_ ⟨hv_, _⟩; exact ⟨hv_, trivial⟩, by rintro i_ L_ lab_ w_ lab2_ w2_ v_ hne_ hd_ hk_ hp_ ⟨hv_, _⟩; exact ⟨hv_, trivial⟩, by rintro i_ L_ lab_ w_ lab2_ w2_ v_ hne_ hd_ hk_ hp_ ⟨hv_, _⟩; exact ⟨hv_, trivial⟩, by rintro i_ L_ lab_ w_ lab2_ w2_ v_ hne_ hd_ hk_ hp_ ⟨hv_, _⟩; exact ⟨hv_, trivial⟩, by rintro i_ L_ lab_ w_ lab2_ w2_ v_ hne_ hd_ hk_ hp_ ⟨hv_, _⟩; exact ⟨hv_, trivial⟩, by rintro i_ L_ lab_ w_ lab2_ w2_ v_ hne_ hd_ hk_ hp_ ⟨hv_, _⟩; exact ⟨hv_, trivial⟩, by rintro i_ L_ lab_ w_ lab2_ w2_ v_ hne_ hd_ hk_ hp_ ⟨hv_, _⟩; exact ⟨hv_, trivial⟩, by rintro i_ L_ lab_ w_ lab2_ w2_ v_ hne_ hd_ hk_ hp_ ⟨hv_, _⟩; exact ⟨hv_, trivial⟩, by rintro i_ L_ lab_ w_ lab2_ w2_ v_ hne_ hd_ hk_ hp_ ⟨hv_, _⟩; exact ⟨hv_, trivial⟩, by rintro i_ L_ lab_ w_ lab2_ w2_ v_ hne_ hd_ hk_ hp_ ⟨hv_, _⟩; exact ⟨hv_, trivial⟩, by rintro i_ L_ lab_ w_ lab2_ w2_ v_ hne_ hd_ hk_ hp_ ⟨hv_, _⟩; exact ⟨hv_, trivial⟩, by rintro i_ L_ lab_ w_ lab2_ w2_ v_ hne_ hd_ hk_ hp_ ⟨hv_, _⟩; exact ⟨hv_, trivial⟩, by rintro i_ L_ lab_ w_ lab2_ w2_ v_ hne_ hd_ hk_ hp_ ⟨hv_, _⟩; exact ⟨hv_, trivial⟩, by rintro i_ L_ lab_ w_ lab2_ w2_ v_ hne_ hd_ hk_ hp_ ⟨hv_, _⟩; exact ⟨hv_, trivial⟩, by rintro i_ L_ lab_ w_ lab2_ w2_ v_ hne_ hd_ hk_ hp_ ⟨hv_, _⟩; exact ⟨hv_, trivial⟩, by rintro i_ L_ lab_ w_ lab2_ w2_ v_ hne_ hd_ hk_ hp_ ⟨hv_, _⟩; exact ⟨hv_, trivial⟩, by rintro i_ L_ lab_ w_ lab2_ w2_ v_ hne_ hd_ hk_ hp_ ⟨hv_, _⟩; exact ⟨hv_, trivial⟩, by rintro i_ L_ lab_ w_ lab2_ w2_ v_ hne_ hd_ hk_ hp_ ⟨hv_, _⟩; exact ⟨hv_, trivial⟩, by rintro i_ L_ lab_ w_ lab2_ w2_ v_ hne_ hd_ hk_ hp_ ⟨hv_, _⟩; exact ⟨hv_, trivial⟩, by rintro i_ L_ lab_ w_ lab2_ w2_ v_ hne_ hd_ hk_ hp_ ⟨hv_, _⟩; exact ⟨hv_, trivial⟩, by rintro i_ L_ lab_ w_ lab2_ w2_ v_ hne_ hd_ hk_ hp_ ⟨hv_, _⟩; exact ⟨hv_, trivial⟩, by rintro i_ L_ lab_ w_ lab2_ w2_ v_ hne_ hd_ hk_ hp_ ⟨hv_, _⟩; exact ⟨hv_, trivial⟩, by rintro i_ L_ lab_ w_ lab2_ w2_ v_ hne_ hd_ hk_ hp_ ⟨hv_, _⟩; exact ⟨hv_, trivial⟩, by rintro i_ L_ lab_ w_ lab2_ w2_ v_ hne_ hd_ hk_ hp_ ⟨hv_, _⟩; exact ⟨hv_, trivial⟩, by rintro i_ L_ lab_ w_ lab2_ w2_ v_ hne_ hd_ hk_ hp_ ⟨hv_, _⟩; exact ⟨hv_, trivial⟩, by rintro i_ L_ lab_ w_ lab2_ w2_ v_ hne_ hd_ hk_ hp_ ⟨hv_, _⟩; exact ⟨hv_, trivial⟩, trivial⟩
                  · refine (ob_succ (ob_succ (ob_succ (ob_succ (ob_succ (ob_succ (ob_succ (ob_succ (ob_succ (ob_succ (ob_succ (ob_succ (ob_succ (ob_succ (ob_succ (ob_succ (ob_succ (ob_succ (ob_succ (ob_succ (ob_succ (ob_succ (ob_succ (ob_succ (ob_succ (ob_succ (ob_succ (ob_succ (ob_succ (ob_succ (ob_succ (ob_succ (ob_succ (ob_succ (ob_succ (ob_succ (ob_succ (ob_succ (ob_succ (ob_succ (ob_succ (ob_succ (ob_succ ob_nil ?_) ?_) ?_) ?_) ?_) ?_) ?_) ?_) ?_) ?_) ?_) ?_) ?_) ?_) ?_) ?_) ?_) ?_) ?_) ?_) ?_) ?_) ?_) ?_) ?_) ?_) ?_) ?_) ?_) ?_) ?_) ?_) ?_) ?_) ?_) ?_) ?_) ?_) ?_) ?_) ?_) ?_) ?_)
                    · exact ob_moveb (v := .slice oa93 y88.1.length c94) rfl (fun _ h_ => h_ _ _ rfl) rfl (fun _ _ _ => ⟨rfl, trivial⟩) (fun _ _ _ h_ => h_)
                    · intro o_ L_ F_ lab_ w_ ho_ hL_ hw_ hcl_ hb_ hr_ hq_; obtain rfl := Option.some.inj (ho_ : some _ = some o_); obtain ⟨cx, b87, s79, s95, s103, s57, _⟩ := hq_
                      obtain ⟨q108, hl77, rfl, _⟩ := hr_ 0 (by decide) (hw_ 0 (by kernel_rfl))
                      replace hl77 : Gk.look F_ 77 = some (.slice oa93 y88.1.length c94) := hl77
                      refine LW.b2s (xs := y88.1) s95 kUnd_24 kUnd_5 kUnd_9 wn rfl hl77 ?_
                      refine LW.nil ?_; intro a_ ha_
                      exact ⟨rfl, _, _, ha_, ⟨rfl, trivial⟩, Ke.refl, cx, b87, s79, s95, s103, s57, trivial⟩
                    · exact ob_moveb (v := .slice oa101 y96.1.length c102) rfl (fun _ h_ => h_ _ _ rfl) rfl (fun _ _ _ => ⟨rfl, trivial⟩) (fun _ _ _ h_ => h_)
                    · intro o_ L_ F_ lab_ w_ ho_ hL_ hw_ hcl_ hb_ hr_ hq_; obtain rfl := Option.some.inj (ho_ : some _ = some o_); obtain ⟨cx, b87, s79, s95, s103, s57, _⟩ := hq_
                      obtain ⟨q109, hl79, rfl, _⟩ := hr_ 2 (by decide) (hw_ 2 (by kernel_rfl))
                      replace hl79 : Gk.look F_ 79 = some (.slice oa101 y96.1.length c102) := hl79
                      refine LW.b2s (xs := y96.1) s103 kUnd_24 kUnd_5 kUnd_9 wn rfl hl79 ?_
                      refine LW.nil ?_; intro a_ ha_
                      exact ⟨rfl, _, _, ha_, ⟨rfl, trivial⟩, Ke.refl, cx, b87, s79, s95, s103, s57, trivial⟩
                    · intro o_ L_ F_ lab_ w_ ho_ hL_ hw_ hcl_ hb_ hr_ hq_; obtain rfl := Option.some.inj (ho_ : some _ = some o_); obtain ⟨cx, b87, s79, s95, s103, s57, _⟩ := hq_
                      obtain ⟨q110, hl78, rfl, _⟩ := hr_ 1 (by decide) (hw_ 1 (by kernel_rfl))
                      replace hl78 : Gk.look F_ 78 = some (strV y88.1) := hl78
                      obtain ⟨q111, hl80, rfl, _⟩ := hr_ 3 (by decide) (hw_ 3 (by kernel_rfl))
                      replace hl80 : Gk.look F_ 80 = some (strV y96.1) := hl80
                      refine LW.nes (letm_eq hx_x112) wn rfl hl78 hl80 ?_; intro x_ hx_; cases hx_
                      refine LW.nil ?_; intro a_ ha_
                      exact ⟨rfl, _, _, ha_, ⟨rfl, trivial⟩, Ke.refl, cx, b87, s79, s95, s103, s57, trivial⟩
                    · intro o_ L_ F_ lab_ w_ ho_ hL_ hw_ hcl_ hb_ hr_ hq_; obtain rfl := Option.some.inj (ho_ : some _ = some o_); obtain ⟨cx, b87, s79, s95, s103, s57, _⟩ := hq_
                      obtain ⟨q113, hl81, rfl, _⟩ := hr_ 4 (by decide) (hw_ 4 (by kernel_rfl))
                      replace hl81 : Gk.look F_ 81 = some (.bool x112) := hl81
                      refine LW.move wn rfl hl81 ?_
                      refine LW.nil ?_; intro a_ ha_
                      exact ⟨rfl, _, _, ha_, ⟨rfl, trivial⟩, Ke.refl, cx, b87, s79, s95, s103, s57, trivial⟩
                    · intro o_ L_ F_ lab_ w_ ho_ hL_ hw_ hcl_ hb_ hr_ hq_; obtain rfl := Option.some.inj (ho_ : some _ = some o_); obtain ⟨cx, b87, s79, s95, s103, s57, _⟩ := hq_
                      have hl13 := hb_ 13 _ rfl
                      obtain ⟨q129, hl82, rfl, _⟩ := hr_ 5 (by decide) (hw_ 5 (by kernel_rfl))
                      replace hl82 : Gk.look F_ 82 = some (.bool x112) := hl82
                      refine LW.move (ws 82 rfl (bk hl82 hb114)) rfl hl13 ?_
                      refine LW.nil ?_; intro a_ ha_
                      exact ⟨rfl, _, _, ha_, ⟨rfl, trivial⟩, Ke.refl, cx, b87, s79, s95, s103, s57, trivial⟩
                    · intro o_ L_ F_ lab_ w_ ho_ hL_ hw_ hcl_ hb_ hr_ hq_; obtain rfl := Option.some.inj (ho_ : some _ = some o_); obtain ⟨cx, b87, s79, s95, s103, s57, _⟩ := hq_
                      have hl16 := hb_ 16 _ rfl
                      obtain ⟨q130, hl82, rfl, _⟩ := hr_ 5 (by decide) (hw_ 5 (by kernel_rfl))
                      replace hl82 : Gk.look F_ 82 = some (.bool x112) := hl82
                      refine LW.move (ws 82 rfl (bk hl82 hb114)) rfl hl16 ?_
                      refine LW.nil ?_; intro a_ ha_
                      exact ⟨rfl, _, _, ha_, ⟨rfl, trivial⟩, Ke.refl, cx, b87, s79, s95, s103, s57, trivial⟩
                    · intro o_ L_ F_ lab_ w_ ho_ hL_ hw_ hcl_ hb_ hr_ hq_; obtain rfl := Option.some.inj (ho_ : some _ = some o_); obtain ⟨cx, b87, s79, s95, s103, s57, _⟩ := hq_
                      obtain ⟨q131, hl83, rfl, _⟩ := hr_ 6 (by decide) (hw_ 6 (by kernel_rfl))
                      replace hl83 : Gk.look F_ 83 = some (.bool y88.2.1) := hl83
                      obtain ⟨q132, hl84, rfl, _⟩ := hr_ 7 (by decide) (hw_ 7 (by kernel_rfl))
                      replace hl84 : Gk.look F_ 84 = some (.bool y96.2.1) := hl84
                      obtain ⟨q133, hl82, rfl, _⟩ := hr_ 5 (by decide) (hw_ 5 (by kernel_rfl))
                      replace hl82 : Gk.look F_ 82 = some (.bool x112) := hl82
                      refine LW.neb (letm_eq hx_x134) kUnd_4 (ws 82 rfl (bk hl82 hb114)) rfl hl83 hl84 ?_; intro x_ hx_; cases hx_
                      refine LW.nil ?_; intro a_ ha_
                      exact ⟨rfl, _, _, ha_, ⟨rfl, trivial⟩, Ke.refl, cx, b87, s79, s95, s103, s57, trivial⟩
                    · intro o_ L_ F_ lab_ w_ ho_ hL_ hw_ hcl_ hb_ hr_ hq_; obtain rfl := Option.some.inj (ho_ : some _ = some o_); obtain ⟨cx, b87, s79, s95, s103, s57, _⟩ := hq_
                      obtain ⟨q135, hl82, rfl, _⟩ := hr_ 5 (by decide) (hw_ 5 (by kernel_rfl))
                      replace hl82 : Gk.look F_ 82 = some (.bool x112) := hl82
                      obtain ⟨q136, hl85, rfl, _⟩ := hr_ 8 (by decide) (hw_ 8 (by kernel_rfl))
                      replace hl85 : Gk.look F_ 85 = some (.bool x134) := hl85
                      refine LW.pick_f wn rfl (bk hl82 hb114) hl85 ?_
                      refine LW.nil ?_; intro a_ ha_
                      exact ⟨rfl, _, _, ha_, ⟨rfl, trivial⟩, Ke.refl, cx, b87, s79, s95, s103, s57, trivial⟩
                    · intro o_ L_ F_ lab_ w_ ho_ hL_ hw_ hcl_ hb_ hr_ hq_; obtain rfl := Option.some.inj (ho_ : some _ = some o_); obtain ⟨cx, b87, s79, s95, s103, s57, _⟩ := hq_
                      obtain ⟨q137, hl86, rfl, _⟩ := hr_ 9 (by decide) (hw_ 9 (by kernel_rfl))
                      replace hl86 : Gk.look F_ 86 = some (.bool x134) := hl86
                      refine LW.move wn rfl hl86 ?_
                      refine LW.nil ?_; intro a_ ha_
                      exact ⟨rfl, _, _, ha_, ⟨rfl, trivial⟩, Ke.refl, cx, b87, s79, s95, s103, s57, trivial⟩
                    · intro o_ L_ F_ lab_ w_ ho_ hL_ hw_ hcl_ hb_ hr_ hq_; obtain rfl := Option.some.inj (ho_ : some _ = some o_); obtain ⟨cx, b87, s79, s95, s103, s57, _⟩ := hq_
                      have hl14 := hb_ 14 _ rfl
                      obtain ⟨q150, hl87, rfl, _⟩ := hr_ 10 (by decide) (hw_ 10 (by kernel_rfl))
                      replace hl87 : Gk.look F_ 87 = some (.bool x134) := hl87
                      refine LW.move (ws 87 rfl (bk hl87 hb138)) rfl hl14 ?_
                      refine LW.nil ?_; intro a_ ha_
                      exact ⟨rfl, _, _, ha_, ⟨rfl, trivial⟩, Ke.refl, cx, b87, s79, s95, s103, s57, trivial⟩
                    · intro o_ L_ F_ lab_ w_ ho_ hL_ hw_ hcl_ hb_ hr_ hq_; obtain rfl := Option.some.inj (ho_ : some _ = some o_); obtain ⟨cx, b87, s79, s95, s103, s57, _⟩ := hq_
                      have hl17 := hb_ 17 _ rfl
                      obtain ⟨q151, hl87, rfl, _⟩ := hr_ 10 (by decide) (hw_ 10 (by kernel_rfl))
                      replace hl87 : Gk.look F_ 87 = some (.bool x134) := hl87
                      refine LW.move (ws 87 rfl (bk hl87 hb138)) rfl hl17 ?_
                      refine LW.nil ?_; intro a_ ha_
                      exact ⟨rfl, _, _, ha_, ⟨rfl, trivial⟩, Ke.refl, cx, b87, s79, s95, s103, s57, trivial⟩
                    · intro o_ L_ F_ lab_ w_ ho_ hL_ hw_ hcl_ hb_ hr_ hq_; obtain rfl := Option.some.inj (ho_ : some _ = some o_); obtain ⟨cx, b87, s79, s95, s103, s57, _⟩ := hq_
                      obtain ⟨q152, hl88, rfl, _⟩ := hr_ 11 (by decide) (hw_ 11 (by kernel_rfl))
                      replace hl88 : Gk.look F_ 88 = some (.int .i64 y88.2.2) := hl88
                      obtain ⟨q153, hl89, rfl, _⟩ := hr_ 12 (by decide) (hw_ 12 (by kernel_rfl))
                      replace hl89 : Gk.look F_ 89 = some (.int .i64 y96.2.2) := hl89
                      obtain ⟨q154, hl87, rfl, _⟩ := hr_ 10 (by decide) (hw_ 10 (by kernel_rfl))
                      replace hl87 : Gk.look F_ 87 = some (.bool x134) := hl87
                      refine LW.neq (letm_eq hx_x155) (ws 87 rfl (bk hl87 hb138)) rfl hl88 hl89 ?_; intro x_ hx_; cases hx_
                      refine LW.nil ?_; intro a_ ha_
                      exact ⟨rfl, _, _, ha_, ⟨rfl, trivial⟩, Ke.refl, cx, b87, s79, s95, s103, s57, trivial⟩
                    · intro o_ L_ F_ lab_ w_ ho_ hL_ hw_ hcl_ hb_ hr_ hq_; obtain rfl := Option.some.inj (ho_ : some _ = some o_); obtain ⟨cx, b87, s79, s95, s103, s57, _⟩ := hq_
                      obtain ⟨q156, hl87, rfl, _⟩ := hr_ 10 (by decide) (hw_ 10 (by kernel_rfl))
                      replace hl87 : Gk.look F_ 87 = some (.bool x134) := hl87
                      obtain ⟨q157, hl90, rfl, _⟩ := hr_ 13 (by decide) (hw_ 13 (by kernel_rfl))
                      replace hl90 : Gk.look F_ 90 = some (.bool x155) := hl90
                      refine LW.pick_f wn rfl (bk hl87 hb138) hl90 ?_
                      refine LW.nil ?_; intro a_ ha_
                      exact ⟨rfl, _, _, ha_, ⟨rfl, trivial⟩, Ke.refl, cx, b87, s79, s95, s103, s57, trivial⟩
                    · intro o_ L_ F_ lab_ w_ ho_ hL_ hw_ hcl_ hb_ hr_ hq_; obtain rfl := Option.some.inj (ho_ : some _ = some o_); obtain ⟨cx, b87, s79, s95, s103, s57, _⟩ := hq_
                      obtain ⟨q158, hl91, rfl, _⟩ := hr_ 14 (by decide) (hw_ 14 (by kernel_rfl))
                      replace hl91 : Gk.look F_ 91 = some (.bool x155) := hl91
                      refine LW.move wn rfl hl91 ?_
                      refine LW.nil ?_; intro a_ ha_
                      exact ⟨rfl, _, _, ha_, ⟨rfl, trivial⟩, Ke.refl, cx, b87, s79, s95, s103, s57, trivial⟩
                    · intro o_ L_ F_ lab_ w_ ho_ hL_ hw_ hcl_ hb_ hr_ hq_; obtain rfl := Option.some.inj (ho_ : some _ = some o_); obtain ⟨cx, b87, s79, s95, s103, s57, _⟩ := hq_
                      have hl11 := hb_ 11 _ rfl
                      obtain ⟨q168, hl92, rfl, _⟩ := hr_ 15 (by decide) (hw_ 15 (by kernel_rfl))
                      replace hl92 : Gk.look F_ 92 = some (.bool x155) := hl92
                      refine LW.fldB 0 kFld_50_0 rfl (ws 92 rfl (bk hl92 hb159)) rfl hl11 ?_
                      refine LW.nil ?_; intro a_ ha_
                      exact ⟨rfl, _, _, ha_, ⟨rfl, trivial⟩, Ke.refl, cx, b87, s79, s95, s103, s57, trivial⟩
                    · intro o_ L_ F_ lab_ w_ ho_ hL_ hw_ hcl_ hb_ hr_ hq_; obtain rfl := Option.some.inj (ho_ : some _ = some o_); obtain ⟨cx, b87, s79, s95, s103, s57, _⟩ := hq_
                      obtain ⟨q169, hl93, rfl, _⟩ := hr_ 16 (by decide) (hw_ 16 (by kernel_rfl))
                      replace hl93 : Gk.look F_ 93 = some (.pointer (some ⟨g80, 0, none⟩)) := hl93
                      obtain ⟨q170, hl92, rfl, _⟩ := hr_ 15 (by decide) (hw_ 15 (by kernel_rfl))
                      replace hl92 : Gk.look F_ 92 = some (.bool x155) := hl92
                      refine LW.loadB1 b87 kOne_24 rfl (ws 92 rfl (bk hl92 hb159)) rfl hl93 ?_
                      refine LW.nil ?_; intro a_ ha_
                      exact ⟨rfl, _, _, ha_, ⟨rfl, trivial⟩, Ke.refl, cx, b87, s79, s95, s103, s57, trivial⟩
                    · intro o_ L_ F_ lab_ w_ ho_ hL_ hw_ hcl_ hb_ hr_ hq_; obtain rfl := Option.some.inj (ho_ : some _ = some o_); obtain ⟨cx, b87, s79, s95, s103, s57, _⟩ := hq_
                      obtain ⟨q171, hl94, rfl, _⟩ := hr_ 17 (by decide) (hw_ 17 (by kernel_rfl))
                      replace hl94 : Gk.look F_ 94 = some (.slice oa77 x72.b.length c78) := hl94
                      obtain ⟨q172, hl92, rfl, _⟩ := hr_ 15 (by decide) (hw_ 15 (by kernel_rfl))
                      replace hl92 : Gk.look F_ 92 = some (.bool x155) := hl92
                      refine LW.len kUnd_24 (ws 92 rfl (bk hl92 hb159)) rfl hl94 ?_
                      refine LW.nil ?_; intro a_ ha_
                      exact ⟨rfl, _, _, ha_, ⟨rfl, trivial⟩, Ke.refl, cx, b87, s79, s95, s103, s57, trivial⟩
                    · intro o_ L_ F_ lab_ w_ ho_ hL_ hw_ hcl_ hb_ hr_ hq_; obtain rfl := Option.some.inj (ho_ : some _ = some o_); obtain ⟨cx, b87, s79, s95, s103, s57, _⟩ := hq_
                      have hl11 := hb_ 11 _ rfl
                      obtain ⟨q173, hl92, rfl, _⟩ := hr_ 15 (by decide) (hw_ 15 (by kernel_rfl))
                      replace hl92 : Gk.look F_ 92 = some (.bool x155) := hl92
                      refine LW.fldB 2 kFld_50_2 rfl (ws 92 rfl (bk hl92 hb159)) rfl hl11 ?_
                      refine LW.nil ?_; intro a_ ha_
                      exact ⟨rfl, _, _, ha_, ⟨rfl, trivial⟩, Ke.refl, cx, b87, s79, s95, s103, s57, trivial⟩
                    · intro o_ L_ F_ lab_ w_ ho_ hL_ hw_ hcl_ hb_ hr_ hq_; obtain rfl := Option.some.inj (ho_ : some _ = some o_); obtain ⟨cx, b87, s79, s95, s103, s57, _⟩ := hq_
                      obtain ⟨q174, hl96, rfl, _⟩ := hr_ 19 (by decide) (hw_ 19 (by kernel_rfl))
                      replace hl96 : Gk.look F_ 96 = some (.pointer (some ⟨g80, 2, none⟩)) := hl96
                      obtain ⟨q175, hl92, rfl, _⟩ := hr_ 15 (by decide) (hw_ 15 (by kernel_rfl))
                      replace hl92 : Gk.look F_ 92 = some (.bool x155) := hl92
                      refine LW.loadB1 b87 kOne_3 rfl (ws 92 rfl (bk hl92 hb159)) rfl hl96 ?_
                      refine LW.nil ?_; intro a_ ha_
                      exact ⟨rfl, _, _, ha_, ⟨rfl, trivial⟩, Ke.refl, cx, b87, s79, s95, s103, s57, trivial⟩
                    · intro o_ L_ F_ lab_ w_ ho_ hL_ hw_ hcl_ hb_ hr_ hq_; obtain rfl := Option.some.inj (ho_ : some _ = some o_); obtain ⟨cx, b87, s79, s95, s103, s57, _⟩ := hq_
                      obtain ⟨q176, hl95, rfl, _⟩ := hr_ 18 (by decide) (hw_ 18 (by kernel_rfl))
                      replace hl95 : Gk.look F_ 95 = some (.int .i64 (x72.b.length : Int)) := hl95
                      obtain ⟨q177, hl97, rfl, _⟩ := hr_ 20 (by decide) (hw_ 20 (by kernel_rfl))
                      replace hl97 : Gk.look F_ 97 = some (.int .i64 x72.s) := hl97
                      obtain ⟨q178, hl92, rfl, _⟩ := hr_ 15 (by decide) (hw_ 15 (by kernel_rfl))
                      replace hl92 : Gk.look F_ 92 = some (.bool x155) := hl92
                      refine LW.call kFn_23 (c_block_Blocks hx_y179 cx.top) (ws 92 rfl (bk hl92 hb159)) rfl (evs_cons hl95 (evs_cons hl97 evs_nil)) ?_
                      rintro _ w180 ⟨rfl, e181, _⟩; refine ⟨_, rfl, ?_⟩
                      replace cx := cx.step e181 rfl
                      replace b87 := b87.step e181 rfl
                      replace s79 := s79.step e181
                      replace s95 := s95.step e181
                      replace s103 := s103.step e181
                      replace s57 := s57.step e181
                      refine LW.nil ?_; intro a_ ha_
                      exact ⟨rfl, _, _, ha_, ⟨rfl, trivial⟩, e181.ke0, cx, b87, s79, s95, s103, s57, trivial⟩
                    · intro o_ L_ F_ lab_ w_ ho_ hL_ hw_ hcl_ hb_ hr_ hq_; obtain rfl := Option.some.inj (ho_ : some _ = some o_); obtain ⟨cx, b87, s79, s95, s103, s57, _⟩ := hq_
                      have hl11 := hb_ 11 _ rfl
                      obtain ⟨q183, hl92, rfl, _⟩ := hr_ 15 (by decide) (hw_ 15 (by kernel_rfl))
                      replace hl92 : Gk.look F_ 92 = some (.bool x155) := hl92
                      refine LW.fldB 0 kFld_50_0 rfl (ws 92 rfl (bk hl92 hb159)) rfl hl11 ?_
                      refine LW.nil ?_; intro a_ ha_
                      exact ⟨rfl, _, _, ha_, ⟨rfl, trivial⟩, Ke.refl, cx, b87, s79, s95, s103, s57, trivial⟩
                    · intro o_ L_ F_ lab_ w_ ho_ hL_ hw_ hcl_ hb_ hr_ hq_; obtain rfl := Option.some.inj (ho_ : some _ = some o_); obtain ⟨cx, b87, s79, s95, s103, s57, _⟩ := hq_
                      obtain ⟨q184, hl99, rfl, _⟩ := hr_ 22 (by decide) (hw_ 22 (by kernel_rfl))
                      replace hl99 : Gk.look F_ 99 = some (.pointer (some ⟨g80, 0, none⟩)) := hl99
                      obtain ⟨q185, hl92, rfl, _⟩ := hr_ 15 (by decide) (hw_ 15 (by kernel_rfl))
                      replace hl92 : Gk.look F_ 92 = some (.bool x155) := hl92
                      refine LW.loadB1 b87 kOne_24 rfl (ws 92 rfl (bk hl92 hb159)) rfl hl99 ?_
                      refine LW.nil ?_; intro a_ ha_
                      exact ⟨rfl, _, _, ha_, ⟨rfl, trivial⟩, Ke.refl, cx, b87, s79, s95, s103, s57, trivial⟩
                    · intro o_ L_ F_ lab_ w_ ho_ hL_ hw_ hcl_ hb_ hr_ hq_; obtain rfl := Option.some.inj (ho_ : some _ = some o_); obtain ⟨cx, b87, s79, s95, s103, s57, _⟩ := hq_
                      obtain ⟨q186, hl100, rfl, _⟩ := hr_ 23 (by decide) (hw_ 23 (by kernel_rfl))
                      replace hl100 : Gk.look F_ 100 = some (.slice oa77 x72.b.length c78) := hl100
                      obtain ⟨q187, hl92, rfl, _⟩ := hr_ 15 (by decide) (hw_ 15 (by kernel_rfl))
                      replace hl92 : Gk.look F_ 92 = some (.bool x155) := hl92
                      refine LW.len kUnd_24 (ws 92 rfl (bk hl92 hb159)) rfl hl100 ?_
                      refine LW.nil ?_; intro a_ ha_
                      exact ⟨rfl, _, _, ha_, ⟨rfl, trivial⟩, Ke.refl, cx, b87, s79, s95, s103, s57, trivial⟩
                    · intro o_ L_ F_ lab_ w_ ho_ hL_ hw_ hcl_ hb_ hr_ hq_; obtain rfl := Option.some.inj (ho_ : some _ = some o_); obtain ⟨cx, b87, s79, s95, s103, s57, _⟩ := hq_
                      have hl11 := hb_ 11 _ rfl
                      obtain ⟨q188, hl92, rfl, _⟩ := hr_ 15 (by decide) (hw_ 15 (by kernel_rfl))
                      replace hl92 : Gk.look F_ 92 = some (.bool x155) := hl92
                      refine LW.fldB 2 kFld_50_2 rfl (ws 92 rfl (bk hl92 hb159)) rfl hl11 ?_
                      refine LW.nil ?_; intro a_ ha_
                      exact ⟨rfl, _, _, ha_, ⟨rfl, trivial⟩, Ke.refl, cx, b87, s79, s95, s103, s57, trivial⟩
                    · intro o_ L_ F_ lab_ w_ ho_ hL_ hw_ hcl_ hb_ hr_ hq_; obtain rfl := Option.some.inj (ho_ : some _ = some o_); obtain ⟨cx, b87, s79, s95, s103, s57, _⟩ := hq_
                      obtain ⟨q189, hl102, rfl, _⟩ := hr_ 25 (by decide) (hw_ 25 (by kernel_rfl))
                      replace hl102 : Gk.look F_ 102 = some (.pointer (some ⟨g80, 2, none⟩)) := hl102
                      obtain ⟨q190, hl92, rfl, _⟩ := hr_ 15 (by decide) (hw_ 15 (by kernel_rfl))
                      replace hl92 : Gk.look F_ 92 = some (.bool x155) := hl92
                      refine LW.loadB1 b87 kOne_3 rfl (ws 92 rfl (bk hl92 hb159)) rfl hl102 ?_
                      refine LW.nil ?_; intro a_ ha_
                      exact ⟨rfl, _, _, ha_, ⟨rfl, trivial⟩, Ke.refl, cx, b87, s79, s95, s103, s57, trivial⟩
                    · intro o_ L_ F_ lab_ w_ ho_ hL_ hw_ hcl_ hb_ hr_ hq_; obtain rfl := Option.some.inj (ho_ : some _ = some o_); obtain ⟨cx, b87, s79, s95, s103, s57, _⟩ := hq_
                      obtain ⟨q191, hl101, rfl, _⟩ := hr_ 24 (by decide) (hw_ 24 (by kernel_rfl))
                      replace hl101 : Gk.look F_ 101 = some (.int .i64 (x72.b.length : Int)) := hl101
                      obtain ⟨q192, hl103, rfl, _⟩ := hr_ 26 (by decide) (hw_ 26 (by kernel_rfl))
                      replace hl103 : Gk.look F_ 103 = some (.int .i64 x72.s) := hl103
                      obtain ⟨q193, hl92, rfl, _⟩ := hr_ 15 (by decide) (hw_ 15 (by kernel_rfl))
                      replace hl92 : Gk.look F_ 92 = some (.bool x155) := hl92
                      refine LW.call kFn_24 (c_coresecref18_Blocks hx_y194 cx.top) (ws 92 rfl (bk hl92 hb159)) rfl (evs_cons hl101 (evs_cons hl103 evs_nil)) ?_
                      rintro _ w195 ⟨rfl, e196, _⟩; refine ⟨_, rfl, ?_⟩
                      replace cx := cx.step e196 rfl
                      replace b87 := b87.step e196 rfl
                      replace s79 := s79.step e196
                      replace s95 := s95.step e196
                      replace s103 := s103.step e196
                      replace s57 := s57.step e196
                      refine LW.nil ?_; intro a_ ha_
                      exact ⟨rfl, _, _, ha_, ⟨rfl, trivial⟩, e196.ke0, cx, b87, s79, s95, s103, s57, trivial⟩
                    · intro o_ L_ F_ lab_ w_ ho_ hL_ hw_ hcl_ hb_ hr_ hq_; obtain rfl := Option.some.inj (ho_ : some _ = some o_); obtain ⟨cx, b87, s79, s95, s103, s57, _⟩ := hq_
                      obtain ⟨q198, hl98, rfl, _⟩ := hr_ 21 (by decide) (hw_ 21 (by kernel_rfl))
                      replace hl98 : Gk.look F_ 98 = some (.int .i64 y179) := hl98
                      obtain ⟨q199, hl104, rfl, _⟩ := hr_ 27 (by decide) (hw_ 27 (by kernel_rfl))
                      replace hl104 : Gk.look F_ 104 = some (.int .i64 y194) := hl104
                      obtain ⟨q200, hl92, rfl, _⟩ := hr_ 15 (by decide) (hw_ 15 (by kernel_rfl))
                      replace hl92 : Gk.look F_ 92 = some (.bool x155) := hl92
                      refine LW.neq (letm_eq hx_x201) (ws 92 rfl (bk hl92 hb159)) rfl hl98 hl104 ?_; intro x_ hx_; cases hx_
                      refine LW.nil ?_; intro a_ ha_
                      exact ⟨rfl, _, _, ha_, ⟨rfl, trivial⟩, Ke.refl, cx, b87, s79, s95, s103, s57, trivial⟩
                    · intro o_ L_ F_ lab_ w_ ho_ hL_ hw_ hcl_ hb_ hr_ hq_; obtain rfl := Option.some.inj (ho_ : some _ = some o_); obtain ⟨cx, b87, s79, s95, s103, s57, _⟩ := hq_
                      obtain ⟨q202, hl92, rfl, _⟩ := hr_ 15 (by decide) (hw_ 15 (by kernel_rfl))
                      replace hl92 : Gk.look F_ 92 = some (.bool x155) := hl92
                      obtain ⟨q203, hl105, rfl, _⟩ := hr_ 28 (by decide) (hw_ 28 (by kernel_rfl))
                      replace hl105 : Gk.look F_ 105 = some (.bool x201) := hl105
                      refine LW.pick_f wn rfl (bk hl92 hb159) hl105 ?_
                      refine LW.nil ?_; intro a_ ha_
                      exact ⟨rfl, _, _, ha_, ⟨rfl, trivial⟩, Ke.refl, cx, b87, s79, s95, s103, s57, trivial⟩
                    · intro o_ L_ F_ lab_ w_ ho_ hL_ hw_ hcl_ hb_ hr_ hq_; obtain rfl := Option.some.inj (ho_ : some _ = some o_); obtain ⟨cx, b87, s79, s95, s103, s57, _⟩ := hq_
                      obtain ⟨q204, hl106, rfl, _⟩ := hr_ 29 (by decide) (hw_ 29 (by kernel_rfl))
                      replace hl106 : Gk.look F_ 106 = some (.bool x201) := hl106
                      refine LW.move wn rfl hl106 ?_
                      refine LW.nil ?_; intro a_ ha_
                      exact ⟨rfl, _, _, ha_, ⟨rfl, trivial⟩, Ke.refl, cx, b87, s79, s95, s103, s57, trivial⟩
                    · exact ob_skip (b' := true) 30 rfl (by kernel_rfl) (by decide) ⟨_, rfl⟩ (fun _ _ _ _ h_ => .inl (h_.1.trans (congrArg Value.bool hb205))) rfl rfl (fun _ _ _ => ⟨rfl, trivial⟩) (fun _ _ _ h_ => h_)
                    · exact ob_skip (b' := true) 30 rfl (by kernel_rfl) (by decide) ⟨_, rfl⟩ (fun _ _ _ _ h_ => .inl (h_.1.trans (congrArg Value.bool hb205))) rfl rfl (fun _ _ _ => ⟨rfl, trivial⟩) (fun _ _ _ h_ => h_)
                    · exact ob_skip (b' := true) 30 rfl (by kernel_rfl) (by decide) ⟨_, rfl⟩ (fun _ _ _ _ h_ => .inl (h_.1.trans (congrArg Value.bool hb205))) rfl rfl (fun _ _ _ => ⟨rfl, trivial⟩) (fun _ _ _ h_ => h_)
                    · exact ob_skip (b' := true) 30 rfl (by kernel_rfl) (by decide) ⟨_, rfl⟩ (fun _ _ _ _ h_ => .inl (h_.1.trans (congrArg Value.bool hb205))) rfl rfl (fun _ _ _ => ⟨rfl, trivial⟩) (fun _ _ _ h_ => h_)
                    · exact ob_skip (b' := true) 30 rfl (by kernel_rfl) (by decide) ⟨_, rfl⟩ (fun _ _ _ _ h_ => .inl (h_.1.trans (congrArg Value.bool hb205))) rfl rfl (fun _ _ _ => ⟨rfl, trivial⟩) (fun _ _ _ h_ => h_)
                    · exact ob_skip (b' := true) 30 rfl (by kernel_rfl) (by decide) ⟨_, rfl⟩ (fun _ _ _ _ h_ => .inl (h_.1.trans (congrArg Value.bool hb205))) rfl rfl (fun _ _ _ => ⟨rfl, trivial⟩) (fun _ _ _ h_ => h_)
                    · exact ob_skip (b' := true) 30 rfl (by kernel_rfl) (by decide) ⟨_, rfl⟩ (fun _ _ _ _ h_ => .inl (h_.1.trans (congrArg Value.bool hb205))) rfl rfl (fun _ _ _ => ⟨rfl, trivial⟩) (fun _ _ _ h_ => h_)
                    · exact ob_skip (b' := true) 30 rfl (by kernel_rfl) (by decide) ⟨_, rfl⟩ (fun _ _ _ _ h_ => .inl (h_.1.trans (congrArg Value.bool hb205))) rfl rfl (fun _ _ _ => ⟨rfl, trivial⟩) (fun _ _ _ h_ => h_)
                    · exact ob_skip (b' := true) 30 rfl (by kernel_rfl) (by decide) ⟨_, rfl⟩ (fun _ _ _ _ h_ => .inl (h_.1.trans (congrArg Value.bool hb205))) rfl rfl (fun _ _ _ => ⟨rfl, trivial⟩) (fun _ _ _ h_ => h_)
                    · exact ob_skip (b' := true) 30 rfl (by kernel_rfl) (by decide) ⟨_, rfl⟩ (fun _ _ _ _ h_ => .inl (h_.1.trans (congrArg Value.bool hb205))) rfl rfl (fun _ _ _ => ⟨rfl, trivial⟩) (fun _ _ _ h_ => h_)
                    · exact ob_skip (b' := true) 30 rfl (by kernel_rfl) (by decide) ⟨_, rfl⟩ (fun _ _ _ _ h_ => .inl (h_.1.trans (congrArg Value.bool hb205))) rfl rfl (fun _ _ _ => ⟨rfl, trivial⟩) (fun _ _ _ h_ => h_)
                    · intro o_ L_ F_ lab_ w_ ho_ hL_ hw_ hcl_ hb_ hr_ hq_; obtain rfl := Option.some.inj (ho_ : some _ = some o_); obtain ⟨cx, b87, s79, s95, s103, s57, _⟩ := hq_
                      obtain ⟨q206, hl107, rfl, _⟩ := hr_ 30 (by decide) (hw_ 30 (by kernel_rfl))
                      replace hl107 : Gk.look F_ 107 = some (.bool x201) := hl107
                      obtain ⟨q207, hl118, rfl, _⟩ := hr_ 41 (by decide) (hw_ 41 (by kernel_rfl))
                      replace hl118 : Gk.look F_ 118 = some (undef) := hl118
                      refine LW.pick_t wn rfl (bk hl107 hb205) rfl ?_
                      refine LW.nil ?_; intro a_ ha_
                      exact ⟨rfl, _, _, ha_, ⟨rfl, trivial⟩, Ke.refl, cx, b87, s79, s95, s103, s57, trivial⟩
                  · intro F_ lab_ w_ hb_ hr_ hq_; obtain ⟨cx, b87, s79, s95, s103, s57, _⟩ := hq_
                    obtain ⟨q210, hl119, rfl, _⟩ := hr_ 42 (by decide)
                    refine LW.sub (G := [(11, .pointer (some ⟨g80, 0, none⟩)), (12, .slice oa93 y88.1.length c94), (13, .bool y88.2.1), (14, .int .i64 y88.2.2), (15, .slice oa101 y96.1.length c102), (16, .bool y96.2.1), (17, .int .i64 y96.2.2), (49, .slice oa54 ([(S_t50.mk a0 a1 a2), (S_t50.mk a0 y32 x42), (S_t50.mk y24 x48 y49)]).length c55), (50, .int .i64 (([(S_t50.mk a0 a1 a2), (S_t50.mk a0 y32 x42), (S_t50.mk y24 x48 y49)]).length : Int)), (51, .int .i64 ((k70 : Nat) : Int)), (119, .bool true)]) ⟨hb_ 11 _ rfl, hb_ 12 _ rfl, hb_ 13 _ rfl, hb_ 14 _ rfl, hb_ 15 _ rfl, hb_ 16 _ rfl, hb_ 17 _ rfl, hb_ 49 _ rfl, hb_ 50 _ rfl, hb_ 51 _ rfl, hl119, trivial⟩ ?_
                    simp only [List.drop_succ_cons, List.drop_nil, List.drop_zero]
                    refine LW.nil ?_
                    obtain rfl := Option.some.inj hm
                    refine EW.sub (G := [(49, .slice oa54 ([(S_t50.mk a0 a1 a2), (S_t50.mk a0 y32 x42), (S_t50.mk y24 x48 y49)]).length c55), (50, .int .i64 (([(S_t50.mk a0 a1 a2), (S_t50.mk a0 y32 x42), (S_t50.mk y24 x48 y49)]).length : Int)), (51, .int .i64 ((k70 : Nat) : Int)), (119, .bool true)]) ⟨rfl, rfl, rfl, rfl, trivial⟩ ?_
                    exact EW.join_n ⟨_, rfl, cx, s57, trivial⟩
                · replace hm := cond_f hm hb205
                  obtain ⟨y220, hx_y220, hm_⟩ := bnd_some hm; clear hm; have hm := hm_; clear hm_
                  obtain ⟨y233, hx_y233, hm_⟩ := bnd_some hm; clear hm; have hm := hm_; clear hm_
                  obtain ⟨x240, hx_x240, hm_⟩ := letm_some hm; clear hm; have hm := hm_; clear hm_
                  refine CW.sub (G := [(11, .pointer (some ⟨g80, 0, none⟩)), (12, .slice oa93 y88.1.length c94), (13, .bool y88.2.1), (14, .int .i64 y88.2.2), (15, .slice oa101 y96.1.length c102), (16, .bool y96.2.1), (17, .int .i64 y96.2.2), (49, .slice oa54 ([(S_t50.mk a0 a1 a2), (S_t50.mk a0 y32 x42), (S_t50.mk y24 x48 y49)]).length c55), (50, .int .i64 (([(S_t50.mk a0 a1 a2), (S_t50.mk a0 y32 x42), (S_t50.mk y24 x48 y49)]).length : Int)), (51, .int .i64 ((k70 : Nat) : Int))]) ⟨rfl, rfl, rfl, rfl, rfl, rfl, rfl, rfl, rfl, rfl, trivial⟩ ?_
                  refine CW.drawL (fun i_ => []) (fun i_ => by (try dsimp only); (repeat' split) <;> rfl) kMix_ 43 (by kernel_rfl) cx.top ?_
                  intro w243 e244
                  replace cx := cx.step e244 rfl
                  replace b87 := b87.step e244 rfl
                  replace s79 := s79.step e244
                  replace s95 := s95.step e244
                  replace s103 := s103.step e244
                  replace s57 := s57.step e244
                  clear e244
                  refine ⟨[(fun L_ lab_ w_ v_ => v_ = .slice oa93 y88.1.length c94 ∧ True),
    (fun L_ lab_ w_ v_ => v_ = strV y88.1 ∧ True),
    (fun L_ lab_ w_ v_ => v_ = .slice oa101 y96.1.length c102 ∧ True),
    (fun L_ lab_ w_ v_ => v_ = strV y96.1 ∧ True),
    (fun L_ lab_ w_ v_ => v_ = .bool x112 ∧ True),
    (fun L_ lab_ w_ v_ => v_ = .bool x112 ∧ True),
    (fun L_ lab_ w_ v_ => v_ = .bool y88.2.1 ∧ True),
    (fun L_ lab_ w_ v_ => v_ = .bool y96.2.1 ∧ True),
    (fun L_ lab_ w_ v_ => v_ = .bool x134 ∧ True),
    (fun L_ lab_ w_ v_ => v_ = .bool x134 ∧ True),
    (fun L_ lab_ w_ v_ => v_ = .bool x134 ∧ True),
    (fun L_ lab_ w_ v_ => v_ = .int .i64 y88.2.2 ∧ True),
    (fun L_ lab_ w_ v_ => v_ = .int .i64 y96.2.2 ∧ True),
    (fun L_ lab_ w_ v_ => v_ = .bool x155 ∧ True),
    (fun L_ lab_ w_ v_ => v_ = .bool x155 ∧ True),
    (fun L_ lab_ w_ v_ => v_ = .bool x155 ∧ True),
    (fun L_ lab_ w_ v_ => v_ = .pointer (some ⟨g80, 0, none⟩) ∧ True),
    (fun L_ lab_ w_ v_ => v_ = .slice oa77 x72.b.length c78 ∧ True),
    (fun L_ lab_ w_ v_ => v_ = .int .i64 (x72.b.length : Int) ∧ True),
    (fun L_ lab_ w_ v_ => v_ = .pointer (some ⟨g80, 2, none⟩) ∧ True),
    (fun L_ lab_ w_ v_ => v_ = .int .i64 x72.s ∧ True),
    (fun L_ lab_ w_ v_ => v_ = .int .i64 y179 ∧ True),
    (fun L_ lab_ w_ v_ => v_ = .pointer (some ⟨g80, 0, none⟩) ∧ True),
    (fun L_ lab_ w_ v_ => v_ = .slice oa77 x72.b.length c78 ∧ True),
    (fun L_ lab_ w_ v_ => v_ = .int .i64 (x72.b.length : Int) ∧ True),
    (fun L_ lab_ w_ v_ => v_ = .pointer (some ⟨g80, 2, none⟩) ∧ True),
    (fun L_ lab_ w_ v_ => v_ = .int .i64 x72.s ∧ True),
    (fun L_ lab_ w_ v_ => v_ = .int .i64 y194 ∧ True),
    (fun L_ lab_ w_ v_ => v_ = .bool x201 ∧ True),
    (fun L_ lab_ w_ v_ => v_ = .bool x201 ∧ True),
    (fun L_ lab_ w_ v_ => v_ = .bool x201 ∧ True),
    (fun L_ lab_ w_ v_ => v_ = .pointer (some ⟨g80, 1, none⟩) ∧ True),
    (fun L_ lab_ w_ v_ => v_ = .int .i64 x72.n ∧ True),
    (fun L_ lab_ w_ v_ => v_ = .pointer (some ⟨g80, 2, none⟩) ∧ True),
    (fun L_ lab_ w_ v_ => v_ = .int .i64 x72.s ∧ True),
    (fun L_ lab_ w_ v_ => v_ = .int .i64 y220 ∧ True),
    (fun L_ lab_ w_ v_ => v_ = .pointer (some ⟨g80, 1, none⟩) ∧ True),
    (fun L_ lab_ w_ v_ => v_ = .int .i64 x72.n ∧ True),
    (fun L_ lab_ w_ v_ => v_ = .pointer (some ⟨g80, 2, none⟩) ∧ True),
    (fun L_ lab_ w_ v_ => v_ = .int .i64 x72.s ∧ True),
    (fun L_ lab_ w_ v_ => v_ = .int .i64 y233 ∧ True),
    (fun L_ lab_ w_ v_ => v_ = .bool x240 ∧ True),
    (fun L_ lab_ w_ v_ => v_ = .bool x240 ∧ True)], (fun L_ lab_ w_ => Cx [] w lab w_ lab_ ∧ Box lab_ w_ 21 g80 50 [.slice oa77 x72.b.length c78, .int .i64 x72.n, .int .i64 x72.s] ∧ SL Rep.u8 lab_ w_ oa77 c78 x72.b ∧ SL Rep.u8 lab_ w_ oa93 c94 y88.1 ∧ SL Rep.u8 lab_ w_ oa101 c102 y96.1 ∧ SL R_t50 lab_ w_ oa54 c55 ([(S_t50.mk a0 a1 a2), (S_t50.mk a0 y32 x42), (S_t50.mk y24 x48 y49)]) ∧ True), ?_, ⟨cx, b87, s79, s95, s103, s57, trivial⟩, ?_, ?_⟩
                  · exact ⟨by rintro i_ L_ lab_ w_ lab2_ w2_ v_ hne_ hd_ hk_ hp_ ⟨hv_, _⟩; exact ⟨hv_, trivial⟩, by rintro i_ L_ lab_ w_ lab2_ w2_ v_ hne_ hd_ hk_ hp_ ⟨hv_, _⟩; exact ⟨hv_, trivial⟩, by rintro i_ L_ lab_ w_ lab2_ w2_ v_ hne_ hd_ hk_ hp_ ⟨hv_, _⟩; exact ⟨hv_, trivial⟩, by rintro i_ L_ lab_ w_ lab2_ w2_ v_ hne_ hd_ hk_ hp_ ⟨hv_, _⟩; exact ⟨hv_, trivial⟩, by rintro i_ L_ lab_ w_ lab2_ w2_ v_ hne_ hd_ hk_ hp_ ⟨hv_, _⟩; exact ⟨hv_, trivial⟩, by rintro i_ L_ lab_ w_ lab2_ w2_ v_ hne_ hd_ hk_ hp_ ⟨hv_, _⟩; exact ⟨hv_, trivial⟩, by rintro i_ L_ lab_ w_ lab2_ w2_ v_ hne_ hd_ hk_ hp_ ⟨hv_, _⟩; exact ⟨hv_, trivial⟩, by rintro i_ L_ lab_ w_ lab2_ w2_ v_ hne_ hd_ hk_ hp_ ⟨hv_, _⟩; exact ⟨hv_, trivial⟩, by rintro i_ L_ lab_ w_ lab2_ w2_ v_ hne_ hd_ hk_ hp_ ⟨hv_, _⟩; exact ⟨hv_, trivial⟩, by rintro i_ L_ lab_ w_ lab2_ w2_ v_ hne_ hd_ hk_ hp_ ⟨hv_, _⟩; exact ⟨hv_, trivial⟩, by rintro i_ L_ lab_ w_ lab2_ w2_ v_ hne_ hd_ hk_ hp_ ⟨hv_, _⟩; exact ⟨hv_, trivial⟩, by rintro i_ L_ lab_ w_ lab2_ w2_ v_ hne_ hd_ hk_ hp_ ⟨hv_, _⟩; exact ⟨hv_, trivial⟩, by rintro i_ L_ lab_ w_ lab2_ w2_ v_ hne_ hd_ hk_ hp_ ⟨hv_, _⟩; exact ⟨hv_, trivial⟩, by rintro i_ L_ lab_ w_ lab2_ w2_ v_ hne_ hd_ hk_ hp_ ⟨hv_, _⟩; exact ⟨hv_, trivial⟩, by rintro i_ L_ lab_ w_ lab2_ w2_ v_ hne_ hd_ hk_ hp_ ⟨hv_, _⟩; exact ⟨hv_, trivial⟩, by rintro i_ L_ lab_ w_ lab2_ w2_ v_ hne_ hd_ hk_ hp_ ⟨hv_, _⟩; exact ⟨hv_, trivial⟩, by rintro i_ L_ lab_ w_ lab2_ w2_ v_ hne_ hd_ hk_ hp_ ⟨hv_, _⟩; exact ⟨hv_, trivial⟩, by rintro i_ L_ lab_ w_ lab2_ w2_ v_ hne_ hd_ hk_ hp_ ⟨hv_, _⟩; exact ⟨hv_, trivial⟩, by rintro i_ L_ lab_ w_ lab2_ w2_ v_ hne_ hd_ hk_ hp_ ⟨hv_, _⟩; exact ⟨hv_, trivial⟩, by rintro i_ L_ lab_ w_ lab2_ w2_ v_ hne_ hd_ hk_ hp_ ⟨hv_, _⟩; exact ⟨hv_, trivial⟩, by rintro i_ L_ lab_ w_ lab2_ w2_ v_ hne_ hd_ hk_ hp_ ⟨hv_, _⟩; exact ⟨hv_, trivial⟩, by rintro i_ L_ lab_ w_ lab2_ w2_ v_ hne_ hd_ hk_ hp_ ⟨hv_, _⟩; exact ⟨hv_, trivial⟩, by rintro i_ L_ lab_ w_ lab2_ w2_ v_ hne_ hd_ hk_ hp_ ⟨hv_, _⟩; exact ⟨hv_, trivial⟩, by rintro i_ L_ lab_ w_ lab2_ w2_ v_ hne_ hd_ hk_ hp_ ⟨hv_, _⟩; exact ⟨hv_, trivial⟩, by rintro i_ L_ lab_ w_ lab2_ w2_ v_ hne_ hd_ hk_ hp_ ⟨hv_, _⟩; exact ⟨hv_, trivial⟩, by rintro i_ L_ lab_ w_ lab2_ w2_ v_ hne_ hd_ hk_ hp_ ⟨hv_, _⟩; exact ⟨hv_, trivial⟩, by rintro i_ L_ lab_ w_ lab2_ w2_ v_ hne_ hd_ hk_ hp_ ⟨hv_, _⟩; exact ⟨hv_, trivial⟩, by rintro i_ L_ lab_ w_ lab2_ w2_ v_ hne_ hd_ hk_ hp_ ⟨hv_, _⟩; exact ⟨hv_, trivial⟩, by rintro i_ L_ lab_ w_ lab2_ w2_ v_ hne_ hd_ hk_ hp_ ⟨hv_, _⟩; exact ⟨hv_, trivial⟩, by rintro i_ L_ lab_ w_ lab2_ w2_ v_ hne_ hd_ hk_ hp_ ⟨hv_, _⟩; exact ⟨hv_, trivial⟩, by rintro i_ L_ lab_ w_ lab2_ w2_ v_ hne_ hd_ hk_ hp_ ⟨hv_, _⟩; exact ⟨hv_, trivial⟩, by rintro i_ L_ lab_ w_ lab2_ w2_ v_ hne_ hd_ hk_ hp_ ⟨hv_, _⟩; exact ⟨hv_, trivial⟩, by rintro i_ L_ lab_ w_ lab2_ w2_ v_ hne_ hd_ hk_ hp_ ⟨hv_, _⟩; exact ⟨hv_, trivial⟩, by rintro i_ L_ lab_ w_ lab2_ w2_ v_ hne_ hd_ hk_ hp_ ⟨hv_, _⟩; exact ⟨hv_, trivial⟩, by rintro i_ L_ lab_ w_ lab2_ w2_ v_ hne_ hd_ hk_ hp_ ⟨hv_, _⟩; exact ⟨hv_, trivial⟩, by rintro i_ L_ lab_ w_ lab2_ w2_ v_ hne_ hd_ hk_ hp_ ⟨hv_, _⟩; exact ⟨hv_, trivial⟩, by rintro i_ L_ lab_ w_ lab2_ w2_ v_ hne_ hd_ hk_ hp_ ⟨hv_, _⟩; exact ⟨hv_, trivial⟩, by rintro i_ L_ lab_ w_ lab2_ w2_ v_ hne_ hd_ hk_ hp_ ⟨hv_, _⟩; exact ⟨hv_, trivial⟩, by rintro i_ L_ lab_ w_ lab2_ w2_ v_ hne_ hd_ hk_ hp_ ⟨hv_, _⟩; exact ⟨hv_, trivial⟩, by rintro i_ L_ lab_ w_ lab2_ w2_ v_ hne_ hd_ hk_ hp_ ⟨hv_, _⟩; exact ⟨hv_, trivial⟩, by rintro i_ L_ lab_ w_ lab2_ w2_ v_ hne_ hd_ hk_ hp_ ⟨hv_, _⟩; exact ⟨hv_, trivial⟩, by rintro i_ L_ lab_ w_ lab2_ w2_ v_ hne_ hd_ hk_ hp_ ⟨hv_, _⟩; exact ⟨hv_, trivial⟩, by rintro i_ L_ lab_ w_ lab2_ w2_ v_ hne_ hd_ hk_ hp_ ⟨hv_, _⟩; exact ⟨hv_, trivial⟩, trivial⟩
                  · refine (ob_succ (ob_succ (ob_succ (ob_succ (ob_succ (ob_succ (ob_succ (ob_succ (ob_succ (ob_succ (ob_succ (ob_succ (ob_succ (ob_succ (ob_succ (ob_succ (ob_succ (ob_succ (ob_succ (ob_succ (ob_succ (ob_succ (ob_succ (ob_succ (ob_succ (ob_succ (ob_succ (ob_succ (ob_succ (ob_succ (ob_succ (ob_succ (ob_succ (ob_succ (ob_succ (ob_succ (ob_succ (ob_succ (ob_succ (ob_succ (ob_succ (ob_succ (ob_succ ob_nil ?_) ?_) ?_) ?_) ?_) ?_) ?_) ?_) ?_) ?_) ?_) ?_) ?_) ?_) ?_) ?_) ?_) ?_) ?_) ?_) ?_) ?_) ?_) ?_) ?_) ?_) ?_) ?_) ?_) ?_) ?_) ?_) ?_) ?_) ?_) ?_) ?_) ?_) ?_) ?_) ?_) ?_) ?_)
                    · exact ob_moveb (v := .slice oa93 y88.1.length c94) rfl (fun _ h_ => h_ _ _ rfl) rfl (fun _ _ _ => ⟨rfl, trivial⟩) (fun _ _ _ h_ => h_)
                    · intro o_ L_ F_ lab_ w_ ho_ hL_ hw_ hcl_ hb_ hr_ hq_; obtain rfl := Option.some.inj (ho_ : some _ = some o_); obtain ⟨cx, b87, s79, s95, s103, s57, _⟩ := hq_
                      obtain ⟨q108, hl77, rfl, _⟩ := hr_ 0 (by decide) (hw_ 0 (by kernel_rfl))
                      replace hl77 : Gk.look F_ 77 = some (.slice oa93 y88.1.length c94) := hl77
                      refine LW.b2s (xs := y88.1) s95 kUnd_24 kUnd_5 kUnd_9 wn rfl hl77 ?_
                      refine LW.nil ?_; intro a_ ha_
                      exact ⟨rfl, _, _, ha_, ⟨rfl, trivial⟩, Ke.refl, cx, b87, s79, s95, s103, s57, trivial⟩
                    · exact ob_moveb (v := .slice oa101 y96.1.length c102) rfl (fun _ h_ => h_ _ _ rfl) rfl (fun _ _ _ => ⟨rfl, trivial⟩) (fun _ _ _ h_ => h_)
                    · intro o_ L_ F_ lab_ w_ ho_ hL_ hw_ hcl_ hb_ hr_ hq_; obtain rfl := Option.some.inj (ho_ : some _ = some o_); obtain ⟨cx, b87, s79, s95, s103, s57, _⟩ := hq_
                      obtain ⟨q109, hl79, rfl, _⟩ := hr_ 2 (by decide) (hw_ 2 (by kernel_rfl))
                      replace hl79 : Gk.look F_ 79 = some (.slice oa101 y96.1.length c102) := hl79
                      refine LW.b2s (xs := y96.1) s103 kUnd_24 kUnd_5 kUnd_9 wn rfl hl79 ?_
                      refine LW.nil ?_; intro a_ ha_
                      exact ⟨rfl, _, _, ha_, ⟨rfl, trivial⟩, Ke.refl, cx, b87, s79, s95, s103, s57, trivial⟩
                    · intro o_ L_ F_ lab_ w_ ho_ hL_ hw_ hcl_ hb_ hr_ hq_; obtain rfl := Option.some.inj (ho_ : some _ = some o_); obtain ⟨cx, b87, s79, s95, s103, s57, _⟩ := hq_
                      obtain ⟨q110, hl78, rfl, _⟩ := hr_ 1 (by decide) (hw_ 1 (by kernel_rfl))
                      replace hl78 : Gk.look F_ 78 = some (strV y88.1) := hl78
                      obtain ⟨q111, hl80, rfl, _⟩ := hr_ 3 (by decide) (hw_ 3 (by kernel_rfl))
                      replace hl80 : Gk.look F_ 80 = some (strV y96.1) := hl80
                      refine LW.nes (letm_eq hx_x112) wn rfl hl78 hl80 ?_; intro x_ hx_; cases hx_
                      refine LW.nil ?_; intro a_ ha_
                      exact ⟨rfl, _, _, ha_, ⟨rfl, trivial⟩, Ke.refl, cx, b87, s79, s95, s103, s57, trivial⟩
                    · intro o_ L_ F_ lab_ w_ ho_ hL_ hw_ hcl_ hb_ hr_ hq_; obtain rfl := Option.some.inj (ho_ : some _ = some o_); obtain ⟨cx, b87, s79, s95, s103, s57, _⟩ := hq_
                      obtain ⟨q113, hl81, rfl, _⟩ := hr_ 4 (by decide) (hw_ 4 (by kernel_rfl))
                      replace hl81 : Gk.look F_ 81 = some (.bool x112) := hl81
                      refine LW.move wn rfl hl81 ?_
                      refine LW.nil ?_; intro a_ ha_
                      exact ⟨rfl, _, _, ha_, ⟨rfl, trivial⟩, Ke.refl, cx, b87, s79, s95, s103, s57, trivial⟩
                    · intro o_ L_ F_ lab_ w_ ho_ hL_ hw_ hcl_ hb_ hr_ hq_; obtain rfl := Option.some.inj (ho_ : some _ = some o_); obtain ⟨cx, b87, s79, s95, s103, s57, _⟩ := hq_
                      have hl13 := hb_ 13 _ rfl
                      obtain ⟨q129, hl82, rfl, _⟩ := hr_ 5 (by decide) (hw_ 5 (by kernel_rfl))
                      replace hl82 : Gk.look F_ 82 = some (.bool x112) := hl82
                      refine LW.move (ws 82 rfl (bk hl82 hb114)) rfl hl13 ?_
                      refine LW.nil ?_; intro a_ ha_
                      exact ⟨rfl, _, _, ha_, ⟨rfl, trivial⟩, Ke.refl, cx, b87, s79, s95, s103, s57, trivial⟩
                    · intro o_ L_ F_ lab_ w_ ho_ hL_ hw_ hcl_ hb_ hr_ hq_; obtain rfl := Option.some.inj (ho_ : some _ = some o_); obtain ⟨cx, b87, s79, s95, s103, s57, _⟩ := hq_
                      have hl16 := hb_ 16 _ rfl
                      obtain ⟨q130, hl82, rfl, _⟩ := hr_ 5 (by decide) (hw_ 5 (by kernel_rfl))
                      replace hl82 : Gk.look F_ 82 = some (.bool x112) := hl82
                      refine LW.move (ws 82 rfl (bk hl82 hb114)) rfl hl16 ?_
                      refine LW.nil ?_; intro a_ ha_
                      exact ⟨rfl, _, _, ha_, ⟨rfl, trivial⟩, Ke.refl, cx, b87, s79, s95, s103, s57, trivial⟩
                    · intro o_ L_ F_ lab_ w_ ho_ hL_ hw_ hcl_ hb_ hr_ hq_; obtain rfl := Option.some.inj (ho_ : some _ = some o_); obtain ⟨cx, b87, s79, s95, s103, s57, _⟩ := hq_
                      obtain ⟨q131, hl83, rfl, _⟩ := hr_ 6 (by decide) (hw_ 6 (by kernel_rfl))
                      replace hl83 : Gk.look F_ 83 = some (.bool y88.2.1) := hl83
                      obtain ⟨q132, hl84, rfl, _⟩ := hr_ 7 (by decide) (hw_ 7 (by kernel_rfl))
                      replace hl84 : Gk.look F_ 84 = some (.bool y96.2.1) := hl84
                      obtain ⟨q133, hl82, rfl, _⟩ := hr_ 5 (by decide) (hw_ 5 (by kernel_rfl))
                      replace hl82 : Gk.look F_ 82 = some (.bool x112) := hl82
                      refine LW.neb (letm_eq hx_x134) kUnd_4 (ws 82 rfl (bk hl82 hb114)) rfl hl83 hl84 ?_; intro x_ hx_; cases hx_
                      refine LW.nil ?_; intro a_ ha_
                      exact ⟨rfl, _, _, ha_, ⟨rfl, trivial⟩, Ke.refl, cx, b87, s79, s95, s103, s57, trivial⟩
                    · intro o_ L_ F_ lab_ w_ ho_ hL_ hw_ hcl_ hb_ hr_ hq_; obtain rfl := Option.some.inj (ho_ : some _ = some o_); obtain ⟨cx, b87, s79, s95, s103, s57, _⟩ := hq_
                      obtain ⟨q135, hl82, rfl, _⟩ := hr_ 5 (by decide) (hw_ 5 (by kernel_rfl))
                      replace hl82 : Gk.look F_ 82 = some (.bool x112) := hl82
                      obtain ⟨q136, hl85, rfl, _⟩ := hr_ 8 (by decide) (hw_ 8 (by kernel_rfl))
                      replace hl85 : Gk.look F_ 85 = some (.bool x134) := hl85
                      refine LW.pick_f wn rfl (bk hl82 hb114) hl85 ?_
                      refine LW.nil ?_; intro a_ ha_
                      exact ⟨rfl, _, _, ha_, ⟨rfl, trivial⟩, Ke.refl, cx, b87, s79, s95, s103, s57, trivial⟩
                    · intro o_ L_ F_ lab_ w_ ho_ hL_ hw_ hcl_ hb_ hr_ hq_; obtain rfl := Option.some.inj (ho_ : some _ = some o_); obtain ⟨cx, b87, s79, s95, s103, s57, _⟩ := hq_
                      obtain ⟨q137, hl86, rfl, _⟩ := hr_ 9 (by decide) (hw_ 9 (by kernel_rfl))
                      replace hl86 : Gk.look F_ 86 = some (.bool x134) := hl86
                      refine LW.move wn rfl hl86 ?_
                      refine LW.nil ?_; intro a_ ha_
                      exact ⟨rfl, _, _, ha_, ⟨rfl, trivial⟩, Ke.refl, cx, b87, s79, s95, s103, s57, trivial⟩
                    · intro o_ L_ F_ lab_ w_ ho_ hL_ hw_ hcl_ hb_ hr_ hq_; obtain rfl := Option.some.inj (ho_ : some _ = some o_); obtain ⟨cx, b87, s79, s95, s103, s57, _⟩ := hq_
                      have hl14 := hb_ 14 _ rfl
                      obtain ⟨q150, hl87, rfl, _⟩ := hr_ 10 (by decide) (hw_ 10 (by kernel_rfl))
                      replace hl87 : Gk.look F_ 87 = some (.bool x134) := hl87
                      refine LW.move (ws 87 rfl (bk hl87 hb138)) rfl hl14 ?_
                      refine LW.nil ?_; intro a_ ha_
                      exact ⟨rfl, _, _, ha_, ⟨rfl, trivial⟩, Ke.refl, cx, b87, s79, s95, s103, s57, trivial⟩
                    · intro o_ L_ F_ lab_ w_ ho_ hL_ hw_ hcl_ hb_ hr_ hq_; obtain rfl := Option.some.inj (ho_ : some _ = some o_); obtain ⟨cx, b87, s79, s95, s103, s57, _⟩ := hq_
                      have hl17 := hb_ 17 _ rfl
                      obtain ⟨q151, hl87, rfl, _⟩ := hr_ 10 (by decide) (hw_ 10 (by kernel_rfl))
                      replace hl87 : Gk.look F_ 87 = some (.bool x134) := hl87
                      refine LW.move (ws 87 rfl (bk hl87 hb138)) rfl hl17 ?_
                      refine LW.nil ?_; intro a_ ha_
                      exact ⟨rfl, _, _, ha_, ⟨rfl, trivial⟩, Ke.refl, cx, b87, s79, s95, s103, s57, trivial⟩
                    · intro o_ L_ F_ lab_ w_ ho_ hL_ hw_ hcl_ hb_ hr_ hq_; obtain rfl := Option.some.inj (ho_ : some _ = some o_); obtain ⟨cx, b87, s79, s95, s103, s57, _⟩ := hq_
                      obtain ⟨q152, hl88, rfl, _⟩ := hr_ 11 (by decide) (hw_ 11 (by kernel_rfl))
                      replace hl88 : Gk.look F_ 88 = some (.int .i64 y88.2.2) := hl88
                      obtain ⟨q153, hl89, rfl, _⟩ := hr_ 12 (by decide) (hw_ 12 (by kernel_rfl))
                      replace hl89 : Gk.look F_ 89 = some (.int .i64 y96.2.2) := hl89
                      obtain ⟨q154, hl87, rfl, _⟩ := hr_ 10 (by decide) (hw_ 10 (by kernel_rfl))
                      replace hl87 : Gk.look F_ 87 = some (.bool x134) := hl87
                      refine LW.neq (letm_eq hx_x155) (ws 87 rfl (bk hl87 hb138)) rfl hl88 hl89 ?_; intro x_ hx_; cases hx_
                      refine LW.nil ?_; intro a_ ha_
                      exact ⟨rfl, _, _, ha_, ⟨rfl, trivial⟩, Ke.refl, cx, b87, s79, s95, s103, s57, trivial⟩
                    · intro o_ L_ F_ lab_ w_ ho_ hL_ hw_ hcl_ hb_ hr_ hq_; obtain rfl := Option.some.inj (ho_ : some _ = some o_); obtain ⟨cx, b87, s79, s95, s103, s57, _⟩ := hq_
                      obtain ⟨q156, hl87, rfl, _⟩ := hr_ 10 (by decide) (hw_ 10 (by kernel_rfl))
                      replace hl87 : Gk.look F_ 87 = some (.bool x134) := hl87
                      obtain ⟨q157, hl90, rfl, _⟩ := hr_ 13 (by decide) (hw_ 13 (by kernel_rfl))
                      replace hl90 : Gk.look F_ 90 = some (.bool x155) := hl90
                      refine LW.pick_f wn rfl (bk hl87 hb138) hl90 ?_
                      refine LW.nil ?_; intro a_ ha_
                      exact ⟨rfl, _, _, ha_, ⟨rfl, trivial⟩, Ke.refl, cx, b87, s79, s95, s103, s57, trivial⟩
                    · intro o_ L_ F_ lab_ w_ ho_ hL_ hw_ hcl_ hb_ hr_ hq_; obtain rfl := Option.some.inj (ho_ : some _ = some o_); obtain ⟨cx, b87, s79, s95, s103, s57, _⟩ := hq_
                      obtain ⟨q158, hl91, rfl, _⟩ := hr_ 14 (by decide) (hw_ 14 (by kernel_rfl))
                      replace hl91 : Gk.look F_ 91 = some (.bool x155) := hl91
                      refine LW.move wn rfl hl91 ?_
                      refine LW.nil ?_; intro a_ ha_
                      exact ⟨rfl, _, _, ha_, ⟨rfl, trivial⟩, Ke.refl, cx, b87, s79, s95, s103, s57, trivial⟩
                    · intro o_ L_ F_ lab_ w_ ho_ hL_ hw_ hcl_ hb_ hr_ hq_; obtain rfl := Option.some.inj (ho_ : some _ = some o_); obtain ⟨cx, b87, s79, s95, s103, s57, _⟩ := hq_
                      have hl11 := hb_ 11 _ rfl
                      obtain ⟨q168, hl92, rfl, _⟩ := hr_ 15 (by decide) (hw_ 15 (by kernel_rfl))
                      replace hl92 : Gk.look F_ 92 = some (.bool x155) := hl92
                      refine LW.fldB 0 kFld_50_0 rfl (ws 92 rfl (bk hl92 hb159)) rfl hl11 ?_
                      refine LW.nil ?_; intro a_ ha_
                      exact ⟨rfl, _, _, ha_, ⟨rfl, trivial⟩, Ke.refl, cx, b87, s79, s95, s103, s57, trivial⟩
                    · intro o_ L_ F_ lab_ w_ ho_ hL_ hw_ hcl_ hb_ hr_ hq_; obtain rfl := Option.some.inj (ho_ : some _ = some o_); obtain ⟨cx, b87, s79, s95, s103, s57, _⟩ := hq_
                      obtain ⟨q169, hl93, rfl, _⟩ := hr_ 16 (by decide) (hw_ 16 (by kernel_rfl))
                      replace hl93 : Gk.look F_ 93 = some (.pointer (some ⟨g80, 0, none⟩)) := hl93
                      obtain ⟨q170, hl92, rfl, _⟩ := hr_ 15 (by decide) (hw_ 15 (by kernel_rfl))
                      replace hl92 : Gk.look F_ 92 = some (.bool x155) := hl92
                      refine LW.loadB1 b87 kOne_24 rfl (ws 92 rfl (bk hl92 hb159)) rfl hl93 ?_
                      refine LW.nil ?_; intro a_ ha_
                      exact ⟨rfl, _, _, ha_, ⟨rfl, trivial⟩, Ke.refl, cx, b87, s79, s95, s103, s57, trivial⟩
                    · intro o_ L_ F_ lab_ w_ ho_ hL_ hw_ hcl_ hb_ hr_ hq_; obtain rfl := Option.some.inj (ho_ : some _ = some o_); obtain ⟨cx, b87, s79, s95, s103, s57, _⟩ := hq_
                      obtain ⟨q171, hl94, rfl, _⟩ := hr_ 17 (by decide) (hw_ 17 (by kernel_rfl))
                      replace hl94 : Gk.look F_ 94 = some (.slice oa77 x72.b.length c78) := hl94
                      obtain ⟨q172, hl92, rfl, _⟩ := hr_ 15 (by decide) (hw_ 15 (by kernel_rfl))
                      replace hl92 : Gk.look F_ 92 = some (.bool x155) := hl92
                      refine LW.len kUnd_24 (ws 92 rfl (bk hl92 hb159)) rfl hl94 ?_
                      refine LW.nil ?_; intro a_ ha_
                      exact ⟨rfl, _, _, ha_, ⟨rfl, trivial⟩, Ke.refl, cx, b87, s79, s95, s103, s57, trivial⟩
                    · intro o_ L_ F_ lab_ w_ ho_ hL_ hw_ hcl_ hb_ hr_ hq_; obtain rfl := Option.some.inj (ho_ : some _ = some o_); obtain ⟨cx, b87, s79, s95, s103, s57, _⟩ := hq_
                      have hl11 := hb_ 11 _ rfl
                      obtain ⟨q173, hl92, rfl, _⟩ := hr_ 15 (by decide) (hw_ 15 (by kernel_rfl))
                      replace hl92 : Gk.look F_ 92 = some (.bool x155) := hl92
                      refine LW.fldB 2 kFld_50_2 rfl (ws 92 rfl (bk hl92 hb159)) rfl hl11 ?_
                      refine LW.nil ?_; intro a_ ha_
                      exact ⟨rfl, _, _, ha_, ⟨rfl, trivial⟩, Ke.refl, cx, b87, s79, s95, s103, s57, trivial⟩
                    · intro o_ L_ F_ lab_ w_ ho_ hL_ hw_ hcl_ hb_ hr_ hq_; obtain rfl := Option.some.inj (ho_ : some _ = some o_); obtain ⟨cx, b87, s79, s95, s103, s57, _⟩ := hq_
                      obtain ⟨q174, hl96, rfl, _⟩ := hr_ 19 (by decide) (hw_ 19 (by kernel_rfl))
                      replace hl96 : Gk.look F_ 96 = some (.pointer (some ⟨g80, 2, none⟩)) := hl96
                      obtain ⟨q175, hl92, rfl, _⟩ := hr_ 15 (by decide) (hw_ 15 (by kernel_rfl))
                      replace hl92 : Gk.look F_ 92 = some (.bool x155) := hl92
                      refine LW.loadB1 b87 kOne_3 rfl (ws 92 rfl (bk hl92 hb159)) rfl hl96 ?_
                      refine LW.nil ?_; intro a_ ha_
                      exact ⟨rfl, _, _, ha_, ⟨rfl, trivial⟩, Ke.refl, cx, b87, s79, s95, s103, s57, trivial⟩
                    · intro o_ L_ F_ lab_ w_ ho_ hL_ hw_ hcl_ hb_ hr_ hq_; obtain rfl := Option.some.inj (ho_ : some _ = some o_); obtain ⟨cx, b87, s79, s95, s103, s57, _⟩ := hq_
                      obtain ⟨q176, hl95, rfl, _⟩ := hr_ 18 (by decide) (hw_ 18 (by kernel_rfl))
                      replace hl95 : Gk.look F_ 95 = some (.int .i64 (x72.b.length : Int)) := hl95
                      obtain ⟨q177, hl97, rfl, _⟩ := hr_ 20 (by decide) (hw_ 20 (by kernel_rfl))
                      replace hl97 : Gk.look F_ 97 = some (.int .i64 x72.s) := hl97
                      obtain ⟨q178, hl92, rfl, _⟩ := hr_ 15 (by decide) (hw_ 15 (by kernel_rfl))
                      replace hl92 : Gk.look F_ 92 = some (.bool x155) := hl92
                      refine LW.call kFn_23 (c_block_Blocks hx_y179 cx.top) (ws 92 rfl (bk hl92 hb159)) rfl (evs_cons hl95 (evs_cons hl97 evs_nil)) ?_
                      rintro _ w180 ⟨rfl, e181, _⟩; refine ⟨_, rfl, ?_⟩
                      replace cx := cx.step e181 rfl
                      replace b87 := b87.step e181 rfl
                      replace s79 := s79.step e181
                      replace s95 := s95.step e181
                      replace s103 := s103.step e181
                      replace s57 := s57.step e181
                      refine LW.nil ?_; intro a_ ha_
                      exact ⟨rfl, _, _, ha_, ⟨rfl, trivial⟩, e181.ke0, cx, b87, s79, s95, s103, s57, trivial⟩
                    · intro o_ L_ F_ lab_ w_ ho_ hL_ hw_ hcl_ hb_ hr_ hq_; obtain rfl := Option.some.inj (ho_ : some _ = some o_); obtain ⟨cx, b87, s79, s95, s103, s57, _⟩ := hq_
                      have hl11 := hb_ 11 _ rfl
                      obtain ⟨q183, hl92, rfl, _⟩ := hr_ 15 (by decide) (hw_ 15 (by kernel_rfl))
                      replace hl92 : Gk.look F_ 92 = some (.bool x155) := hl92
                      refine LW.fldB 0 kFld_50_0 rfl (ws 92 rfl (bk hl92 hb159)) rfl hl11 ?_
                      refine LW.nil ?_; intro a_ ha_
                      exact ⟨rfl, _, _, ha_, ⟨rfl, trivial⟩, Ke.refl, cx, b87, s79, s95, s103, s57, trivial⟩
                    · intro o_ L_ F_ lab_ w_ ho_ hL_ hw_ hcl_ hb_ hr_ hq_; obtain rfl := Option.some.inj (ho_ : some _ = some o_); obtain ⟨cx, b87, s79, s95, s103, s57, _⟩ := hq_
                      obtain ⟨q184, hl99, rfl, _⟩ := hr_ 22 (by decide) (hw_ 22 (by kernel_rfl))
                      replace hl99 : Gk.look F_ 99 = some (.pointer (some ⟨g80, 0, none⟩)) := hl99
                      obtain ⟨q185, hl92, rfl, _⟩ := hr_ 15 (by decide) (hw_ 15 (by kernel_rfl))
                      replace hl92 : Gk.look F_ 92 = some (.bool x155) := hl92
                      refine LW.loadB1 b87 kOne_24 rfl (ws 92 rfl (bk hl92 hb159)) rfl hl99 ?_
                      refine LW.nil ?_; intro a_ ha_
                      exact ⟨rfl, _, _, ha_, ⟨rfl, trivial⟩, Ke.refl, cx, b87, s79, s95, s103, s57, trivial⟩
                    · intro o_ L_ F_ lab_ w_ ho_ hL_ hw_ hcl_ hb_ hr_ hq_; obtain rfl := Option.some.inj (ho_ : some _ = some o_); obtain ⟨cx, b87, s79, s95, s103, s57, _⟩ := hq_
                      obtain ⟨q186, hl100, rfl, _⟩ := hr_ 23 (by decide) (hw_ 23 (by kernel_rfl))
                      replace hl100 : Gk.look F_ 100 = some (.slice oa77 x72.b.length c78) := hl100
                      obtain ⟨q187, hl92, rfl, _⟩ := hr_ 15 (by decide) (hw_ 15 (by kernel_rfl))
                      replace hl92 : Gk.look F_ 92 = some (.bool x155) := hl92
                      refine LW.len kUnd_24 (ws 92 rfl (bk hl92 hb159)) rfl hl100 ?_
                      refine LW.nil ?_; intro a_ ha_
                      exact ⟨rfl, _, _, ha_, ⟨rfl, trivial⟩, Ke.refl, cx, b87, s79, s95, s103, s57, trivial⟩
                    · intro o_ L_ F_ lab_ w_ ho_ hL_ hw_ hcl_ hb_ hr_ hq_; obtain rfl := Option.some.inj (ho_ : some _ = some o_); obtain ⟨cx, b87, s79, s95, s103, s57, _⟩ := hq_
                      have hl11 := hb_ 11 _ rfl
                      obtain ⟨q188, hl92, rfl, _⟩ := hr_ 15 (by decide) (hw_ 15 (by kernel_rfl))
                      replace hl92 : Gk.look F_ 92 = some (.bool x155) := hl92
                      refine LW.fldB 2 kFld_50_2 rfl (ws 92 rfl (bk hl92 hb159)) rfl hl11 ?_
                      refine LW.nil ?_; intro a_ ha_
                      exact ⟨rfl, _, _, ha_, ⟨rfl, trivial⟩, Ke.refl, cx, b87, s79, s95, s103, s57, trivial⟩
                    · intro o_ L_ F_ lab_ w_ ho_ hL_ hw_ hcl_ hb_ hr_ hq_; obtain rfl := Option.some.inj (ho_ : some _ = some o_); obtain ⟨cx, b87, s79, s95, s103, s57, _⟩ := hq_
                      obtain ⟨q189, hl102, rfl, _⟩ := hr_ 25 (by decide) (hw_ 25 (by kernel_rfl))
                      replace hl102 : Gk.look F_ 102 = some (.pointer (some ⟨g80, 2, none⟩)) := hl102
                      obtain ⟨q190, hl92, rfl, _⟩ := hr_ 15 (by decide) (hw_ 15 (by kernel_rfl))
                      replace hl92 : Gk.look F_ 92 = some (.bool x155) := hl92
                      refine LW.loadB1 b87 kOne_3 rfl (ws 92 rfl (bk hl92 hb159)) rfl hl102 ?_
                      refine LW.nil ?_; intro a_ ha_
                      exact ⟨rfl, _, _, ha_, ⟨rfl, trivial⟩, Ke.refl, cx, b87, s79, s95, s103, s57, trivial⟩
                    · intro o_ L_ F_ lab_ w_ ho_ hL_ hw_ hcl_ hb_ hr_ hq_; obtain rfl := Option.some.inj (ho_ : some _ = some o_); obtain ⟨cx, b87, s79, s95, s103, s57, _⟩ := hq_
                      obtain ⟨q191, hl101, rfl, _⟩ := hr_ 24 (by decide) (hw_ 24 (by kernel_rfl))
                      replace hl101 : Gk.look F_ 101 = some (.int .i64 (x72.b.length : Int)) := hl101
                      obtain ⟨q192, hl103, rfl, _⟩ := hr_ 26 (by decide) (hw_ 26 (by kernel_rfl))
                      replace hl103 : Gk.look F_ 103 = some (.int .i64 x72.s) := hl103
                      obtain ⟨q193, hl92, rfl, _⟩ := hr_ 15 (by decide) (hw_ 15 (by kernel_rfl))
                      replace hl92 : Gk.look F_ 92 = some (.bool x155) := hl92
                      refine LW.call kFn_24 (c_coresecref18_Blocks hx_y194 cx.top) (ws 92 rfl (bk hl92 hb159)) rfl (evs_cons hl101 (evs_cons hl103 evs_nil)) ?_
                      rintro _ w195 ⟨rfl, e196, _⟩; refine ⟨_, rfl, ?_⟩
                      replace cx := cx.step e196 rfl
                      replace b87 := b87.step e196 rfl
                      replace s79 := s79.step e196
                      replace s95 := s95.step e196
                      replace s103 := s103.step e196
                      replace s57 := s57.step e196
                      refine LW.nil ?_; intro a_ ha_
                      exact ⟨rfl, _, _, ha_, ⟨rfl, trivial⟩, e196.ke0, cx, b87, s79, s95, s103, s57, trivial⟩
                    · intro o_ L_ F_ lab_ w_ ho_ hL_ hw_ hcl_ hb_ hr_ hq_; obtain rfl := Option.some.inj (ho_ : some _ = some o_); obtain ⟨cx, b87, s79, s95, s103, s57, _⟩ := hq_
                      obtain ⟨q198, hl98, rfl, _⟩ := hr_ 21 (by decide) (hw_ 21 (by kernel_rfl))
                      replace hl98 : Gk.look F_ 98 = some (.int .i64 y179) := hl98
                      obtain ⟨q199, hl104, rfl, _⟩ := hr_ 27 (by decide) (hw_ 27 (by kernel_rfl))
                      replace hl104 : Gk.look F_ 104 = some (.int .i64 y194) := hl104
                      obtain ⟨q200, hl92, rfl, _⟩ := hr_ 15 (by decide) (hw_ 15 (by kernel_rfl))
                      replace hl92 : Gk.look F_ 92 = some (.bool x155) := hl92
                      refine LW.neq (letm_eq hx_x201) (ws 92 rfl (bk hl92 hb159)) rfl hl98 hl104 ?_; intro x_ hx_; cases hx_
                      refine LW.nil ?_; intro a_ ha_
                      exact ⟨rfl, _, _, ha_, ⟨rfl, trivial⟩, Ke.refl, cx, b87, s79, s95, s103, s57, trivial⟩
                    · intro o_ L_ F_ lab_ w_ ho_ hL_ hw_ hcl_ hb_ hr_ hq_; obtain rfl := Option.some.inj (ho_ : some _ = some o_); obtain ⟨cx, b87, s79, s95, s103, s57, _⟩ := hq_
                      obtain ⟨q202, hl92, rfl, _⟩ := hr_ 15 (by decide) (hw_ 15 (by kernel_rfl))
                      replace hl92 : Gk.look F_ 92 = some (.bool x155) := hl92
                      obtain ⟨q203, hl105, rfl, _⟩ := hr_ 28 (by decide) (hw_ 28 (by kernel_rfl))
                      replace hl105 : Gk.look F_ 105 = some (.bool x201) := hl105
                      refine LW.pick_f wn rfl (bk hl92 hb159) hl105 ?_
                      refine LW.nil ?_; intro a_ ha_
                      exact ⟨rfl, _, _, ha_, ⟨rfl, trivial⟩, Ke.refl, cx, b87, s79, s95, s103, s57, trivial⟩
                    · intro o_ L_ F_ lab_ w_ ho_ hL_ hw_ hcl_ hb_ hr_ hq_; obtain rfl := Option.some.inj (ho_ : some _ = some o_); obtain ⟨cx, b87, s79, s95, s103, s57, _⟩ := hq_
                      obtain ⟨q204, hl106, rfl, _⟩ := hr_ 29 (by decide) (hw_ 29 (by kernel_rfl))
                      replace hl106 : Gk.look F_ 106 = some (.bool x201) := hl106
                      refine LW.move wn rfl hl106 ?_
                      refine LW.nil ?_; intro a_ ha_
                      exact ⟨rfl, _, _, ha_, ⟨rfl, trivial⟩, Ke.refl, cx, b87, s79, s95, s103, s57, trivial⟩
                    · intro o_ L_ F_ lab_ w_ ho_ hL_ hw_ hcl_ hb_ hr_ hq_; obtain rfl := Option.some.inj (ho_ : some _ = some o_); obtain ⟨cx, b87, s79, s95, s103, s57, _⟩ := hq_
                      have hl11 := hb_ 11 _ rfl
                      obtain ⟨q211, hl107, rfl, _⟩ := hr_ 30 (by decide) (hw_ 30 (by kernel_rfl))
                      replace hl107 : Gk.look F_ 107 = some (.bool x201) := hl107
                      refine LW.fldB 1 kFld_50_1 rfl (ws 107 rfl (bk hl107 hb205)) rfl hl11 ?_
                      refine LW.nil ?_; intro a_ ha_
                      exact ⟨rfl, _, _, ha_, ⟨rfl, trivial⟩, Ke.refl, cx, b87, s79, s95, s103, s57, trivial⟩
                    · intro o_ L_ F_ lab_ w_ ho_ hL_ hw_ hcl_ hb_ hr_ hq_; obtain rfl := Option.some.inj (ho_ : some _ = some o_); obtain ⟨cx, b87, s79, s95, s103, s57, _⟩ := hq_
                      obtain ⟨q212, hl108, rfl, _⟩ := hr_ 31 (by decide) (hw_ 31 (by kernel_rfl))
                      replace hl108 : Gk.look F_ 108 = some (.pointer (some ⟨g80, 1, none⟩)) := hl108
                      obtain ⟨q213, hl107, rfl, _⟩ := hr_ 30 (by decide) (hw_ 30 (by kernel_rfl))
                      replace hl107 : Gk.look F_ 107 = some (.bool x201) := hl107
                      refine LW.loadB1 b87 kOne_3 rfl (ws 107 rfl (bk hl107 hb205)) rfl hl108 ?_
                      refine LW.nil ?_; intro a_ ha_
                      exact ⟨rfl, _, _, ha_, ⟨rfl, trivial⟩, Ke.refl, cx, b87, s79, s95, s103, s57, trivial⟩
                    · intro o_ L_ F_ lab_ w_ ho_ hL_ hw_ hcl_ hb_ hr_ hq_; obtain rfl := Option.some.inj (ho_ : some _ = some o_); obtain ⟨cx, b87, s79, s95, s103, s57, _⟩ := hq_
                      have hl11 := hb_ 11 _ rfl
                      obtain ⟨q214, hl107, rfl, _⟩ := hr_ 30 (by decide) (hw_ 30 (by kernel_rfl))
                      replace hl107 : Gk.look F_ 107 = some (.bool x201) := hl107
                      refine LW.fldB 2 kFld_50_2 rfl (ws 107 rfl (bk hl107 hb205)) rfl hl11 ?_
                      refine LW.nil ?_; intro a_ ha_
                      exact ⟨rfl, _, _, ha_, ⟨rfl, trivial⟩, Ke.refl, cx, b87, s79, s95, s103, s57, trivial⟩
                    · intro o_ L_ F_ lab_ w_ ho_ hL_ hw_ hcl_ hb_ hr_ hq_; obtain rfl := Option.some.inj (ho_ : some _ = some o_); obtain ⟨cx, b87, s79, s95, s103, s57, _⟩ := hq_
                      obtain ⟨q215, hl110, rfl, _⟩ := hr_ 33 (by decide) (hw_ 33 (by kernel_rfl))
                      replace hl110 : Gk.look F_ 110 = some (.pointer (some ⟨g80, 2, none⟩)) := hl110
                      obtain ⟨q216, hl107, rfl, _⟩ := hr_ 30 (by decide) (hw_ 30 (by kernel_rfl))
                      replace hl107 : Gk.look F_ 107 = some (.bool x201) := hl107
                      refine LW.loadB1 b87 kOne_3 rfl (ws 107 rfl (bk hl107 hb205)) rfl hl110 ?_
                      refine LW.nil ?_; intro a_ ha_
                      exact ⟨rfl, _, _, ha_, ⟨rfl, trivial⟩, Ke.refl, cx, b87, s79, s95, s103, s57, trivial⟩
                    · intro o_ L_ F_ lab_ w_ ho_ hL_ hw_ hcl_ hb_ hr_ hq_; obtain rfl := Option.some.inj (ho_ : some _ = some o_); obtain ⟨cx, b87, s79, s95, s103, s57, _⟩ := hq_
                      obtain ⟨q217, hl109, rfl, _⟩ := hr_ 32 (by decide) (hw_ 32 (by kernel_rfl))
                      replace hl109 : Gk.look F_ 109 = some (.int .i64 x72.n) := hl109
                      obtain ⟨q218, hl111, rfl, _⟩ := hr_ 34 (by decide) (hw_ 34 (by kernel_rfl))
                      replace hl111 : Gk.look F_ 111 = some (.int .i64 x72.s) := hl111
                      obtain ⟨q219, hl107, rfl, _⟩ := hr_ 30 (by decide) (hw_ 30 (by kernel_rfl))
                      replace hl107 : Gk.look F_ 107 = some (.bool x201) := hl107
                      refine LW.call kFn_23 (c_block_Blocks hx_y220 cx.top) (ws 107 rfl (bk hl107 hb205)) rfl (evs_cons hl109 (evs_cons hl111 evs_nil)) ?_
                      rintro _ w221 ⟨rfl, e222, _⟩; refine ⟨_, rfl, ?_⟩
                      replace cx := cx.step e222 rfl
                      replace b87 := b87.step e222 rfl
                      replace s79 := s79.step e222
                      replace s95 := s95.step e222
                      replace s103 := s103.step e222
                      replace s57 := s57.step e222
                      refine LW.nil ?_; intro a_ ha_
                      exact ⟨rfl, _, _, ha_, ⟨rfl, trivial⟩, e222.ke0, cx, b87, s79, s95, s103, s57, trivial⟩
                    · intro o_ L_ F_ lab_ w_ ho_ hL_ hw_ hcl_ hb_ hr_ hq_; obtain rfl := Option.some.inj (ho_ : some _ = some o_); obtain ⟨cx, b87, s79, s95, s103, s57, _⟩ := hq_
                      have hl11 := hb_ 11 _ rfl
                      obtain ⟨q224, hl107, rfl, _⟩ := hr_ 30 (by decide) (hw_ 30 (by kernel_rfl))
                      replace hl107 : Gk.look F_ 107 = some (.bool x201) := hl107
                      refine LW.fldB 1 kFld_50_1 rfl (ws 107 rfl (bk hl107 hb205)) rfl hl11 ?_
                      refine LW.nil ?_; intro a_ ha_
                      exact ⟨rfl, _, _, ha_, ⟨rfl, trivial⟩, Ke.refl, cx, b87, s79, s95, s103, s57, trivial⟩
                    · intro o_ L_ F_ lab_ w_ ho_ hL_ hw_ hcl_ hb_ hr_ hq_; obtain rfl := Option.some.inj (ho_ : some _ = some o_); obtain ⟨cx, b87, s79, s95, s103, s57, _⟩ := hq_
                      obtain ⟨q225, hl113, rfl, _⟩ := hr_ 36 (by decide) (hw_ 36 (by kernel_rfl))
                      replace hl113 : Gk.look F_ 113 = some (.pointer (some ⟨g80, 1, none⟩)) := hl113
                      obtain ⟨q226, hl107, rfl, _⟩ := hr_ 30 (by decide) (hw_ 30 (by kernel_rfl))
                      replace hl107 : Gk.look F_ 107 = some (.bool x201) := hl107
                      refine LW.loadB1 b87 kOne_3 rfl (ws 107 rfl (bk hl107 hb205)) rfl hl113 ?_
                      refine LW.nil ?_; intro a_ ha_
                      exact ⟨rfl, _, _, ha_, ⟨rfl, trivial⟩, Ke.refl, cx, b87, s79, s95, s103, s57, trivial⟩
                    · intro o_ L_ F_ lab_ w_ ho_ hL_ hw_ hcl_ hb_ hr_ hq_; obtain rfl := Option.some.inj (ho_ : some _ = some o_); obtain ⟨cx, b87, s79, s95, s103, s57, _⟩ := hq_
                      have hl11 := hb_ 11 _ rfl
                      obtain ⟨q227, hl107, rfl, _⟩ := hr_ 30 (by decide) (hw_ 30 (by kernel_rfl))
                      replace hl107 : Gk.look F_ 107 = some (.bool x201) := hl107
                      refine LW.fldB 2 kFld_50_2 rfl (ws 107 rfl (bk hl107 hb205)) rfl hl11 ?_
                      refine LW.nil ?_; intro a_ ha_
                      exact ⟨rfl, _, _, ha_, ⟨rfl, trivial⟩, Ke.refl, cx, b87, s79, s95, s103, s57, trivial⟩
                    · intro o_ L_ F_ lab_ w_ ho_ hL_ hw_ hcl_ hb_ hr_ hq_; obtain rfl := Option.some.inj (ho_ : some _ = some o_); obtain ⟨cx, b87, s79, s95, s103, s57, _⟩ := hq_
                      obtain ⟨q228, hl115, rfl, _⟩ := hr_ 38 (by decide) (hw_ 38 (by kernel_rfl))
                      replace hl115 : Gk.look F_ 115 = some (.pointer (some ⟨g80, 2, none⟩)) := hl115
                      obtain ⟨q229, hl107, rfl, _⟩ := hr_ 30 (by decide) (hw_ 30 (by kernel_rfl))
                      replace hl107 : Gk.look F_ 107 = some (.bool x201) := hl107
                      refine LW.loadB1 b87 kOne_3 rfl (ws 107 rfl (bk hl107 hb205)) rfl hl115 ?_
                      refine LW.nil ?_; intro a_ ha_
                      exact ⟨rfl, _, _, ha_, ⟨rfl, trivial⟩, Ke.refl, cx, b87, s79, s95, s103, s57, trivial⟩
                    · intro o_ L_ F_ lab_ w_ ho_ hL_ hw_ hcl_ hb_ hr_ hq_; obtain rfl := Option.some.inj (ho_ : some _ = some o_); obtain ⟨cx, b87, s79, s95, s103, s57, _⟩ := hq_
                      obtain ⟨q230, hl114, rfl, _⟩ := hr_ 37 (by decide) (hw_ 37 (by kernel_rfl))
                      replace hl114 : Gk.look F_ 114 = some (.int .i64 x72.n) := hl114
                      obtain ⟨q231, hl116, rfl, _⟩ := hr_ 39 (by decide) (hw_ 39 (by kernel_rfl))
                      replace hl116 : Gk.look F_ 116 = some (.int .i64 x72.s) := hl116
                      obtain ⟨q232, hl107, rfl, _⟩ := hr_ 30 (by decide) (hw_ 30 (by kernel_rfl))
                      replace hl107 : Gk.look F_ 107 = some (.bool x201) := hl107
                      refine LW.call kFn_24 (c_coresecref18_Blocks hx_y233 cx.top) (ws 107 rfl (bk hl107 hb205)) rfl (evs_cons hl114 (evs_cons hl116 evs_nil)) ?_
                      rintro _ w234 ⟨rfl, e235, _⟩; refine ⟨_, rfl, ?_⟩
                      replace cx := cx.step e235 rfl
                      replace b87 := b87.step e235 rfl
                      replace s79 := s79.step e235
                      replace s95 := s95.step e235
                      replace s103 := s103.step e235
                      replace s57 := s57.step e235
                      refine LW.nil ?_; intro a_ ha_
                      exact ⟨rfl, _, _, ha_, ⟨rfl, trivial⟩, e235.ke0, cx, b87, s79, s95, s103, s57, trivial⟩
                    · intro o_ L_ F_ lab_ w_ ho_ hL_ hw_ hcl_ hb_ hr_ hq_; obtain rfl := Option.some.inj (ho_ : some _ = some o_); obtain ⟨cx, b87, s79, s95, s103, s57, _⟩ := hq_
                      obtain ⟨q237, hl112, rfl, _⟩ := hr_ 35 (by decide) (hw_ 35 (by kernel_rfl))
                      replace hl112 : Gk.look F_ 112 = some (.int .i64 y220) := hl112
                      obtain ⟨q238, hl117, rfl, _⟩ := hr_ 40 (by decide) (hw_ 40 (by kernel_rfl))
                      replace hl117 : Gk.look F_ 117 = some (.int .i64 y233) := hl117
                      obtain ⟨q239, hl107, rfl, _⟩ := hr_ 30 (by decide) (hw_ 30 (by kernel_rfl))
                      replace hl107 : Gk.look F_ 107 = some (.bool x201) := hl107
                      refine LW.neq (letm_eq hx_x240) (ws 107 rfl (bk hl107 hb205)) rfl hl112 hl117 ?_; intro x_ hx_; cases hx_
                      refine LW.nil ?_; intro a_ ha_
                      exact ⟨rfl, _, _, ha_, ⟨rfl, trivial⟩, Ke.refl, cx, b87, s79, s95, s103, s57, trivial⟩
                    · intro o_ L_ F_ lab_ w_ ho_ hL_ hw_ hcl_ hb_ hr_ hq_; obtain rfl := Option.some.inj (ho_ : some _ = some o_); obtain ⟨cx, b87, s79, s95, s103, s57, _⟩ := hq_
                      obtain ⟨q241, hl107, rfl, _⟩ := hr_ 30 (by decide) (hw_ 30 (by kernel_rfl))
                      replace hl107 : Gk.look F_ 107 = some (.bool x201) := hl107
                      obtain ⟨q242, hl118, rfl, _⟩ := hr_ 41 (by decide) (hw_ 41 (by kernel_rfl))
                      replace hl118 : Gk.look F_ 118 = some (.bool x240) := hl118
                      refine LW.pick_f wn rfl (bk hl107 hb205) hl118 ?_
                      refine LW.nil ?_; intro a_ ha_
                      exact ⟨rfl, _, _, ha_, ⟨rfl, trivial⟩, Ke.refl, cx, b87, s79, s95, s103, s57, trivial⟩
                  · intro F_ lab_ w_ hb_ hr_ hq_; obtain ⟨cx, b87, s79, s95, s103, s57, _⟩ := hq_
                    obtain ⟨q245, hl119, rfl, _⟩ := hr_ 42 (by decide)
                    refine LW.sub (G := [(11, .pointer (some ⟨g80, 0, none⟩)), (12, .slice oa93 y88.1.length c94), (13, .bool y88.2.1), (14, .int .i64 y88.2.2), (15, .slice oa101 y96.1.length c102), (16, .bool y96.2.1), (17, .int .i64 y96.2.2), (49, .slice oa54 ([(S_t50.mk a0 a1 a2), (S_t50.mk a0 y32 x42), (S_t50.mk y24 x48 y49)]).length c55), (50, .int .i64 (([(S_t50.mk a0 a1 a2), (S_t50.mk a0 y32 x42), (S_t50.mk y24 x48 y49)]).length : Int)), (51, .int .i64 ((k70 : Nat) : Int)), (119, .bool x240)]) ⟨hb_ 11 _ rfl, hb_ 12 _ rfl, hb_ 13 _ rfl, hb_ 14 _ rfl, hb_ 15 _ rfl, hb_ 16 _ rfl, hb_ 17 _ rfl, hb_ 49 _ rfl, hb_ 50 _ rfl, hb_ 51 _ rfl, hl119, trivial⟩ ?_
                    simp only [List.drop_succ_cons, List.drop_nil, List.drop_zero]
                    refine LW.nil ?_
                    obtain rfl := Option.some.inj hm
                    refine EW.sub (G := [(49, .slice oa54 ([(S_t50.mk a0 a1 a2), (S_t50.mk a0 y32 x42), (S_t50.mk y24 x48 y49)]).length c55), (50, .int .i64 (([(S_t50.mk a0 a1 a2), (S_t50.mk a0 y32 x42), (S_t50.mk y24 x48 y49)]).length : Int)), (51, .int .i64 ((k70 : Nat) : Int)), (119, .bool x240)]) ⟨rfl, rfl, rfl, rfl, trivial⟩ ?_
                    exact EW.join_n ⟨_, rfl, cx, s57, trivial⟩
        · rintro _ w106 ⟨lab107, rfl, cx, s57, _⟩
          have hm := hm_; clear hm_
          refine EW.seq_n ?_
          refine CW.cond (b := y104) rfl (fun hb246 => ?_) (fun hb246 => ?_)
          · replace hm := cond_t hm hb246
            refine CW.seq ?_
            refine CW.region ?_
            refine LW.assign wn rfl rfl ?_
            refine LW.nil ?_
            refine EW.seq_n ?_
            refine CW.ret ?_
            refine EW.block_r ?_
            refine EW.seq_r ?_
            refine EW.join_r ?_
            refine EW.block_r ?_
            refine EW.join_r ?_
            obtain rfl := Option.some.inj hm; have hm := hs63 _ rfl
            refine EW.seq_r ?_
            obtain rfl := Option.some.inj hm
            exact EW.ret1 rfl rfl ⟨rfl, (cx.ste t), trivial⟩
          · replace hm := cond_f hm hb246
            refine CW.skip ?_
            refine EW.block_n ?_
            refine EW.seq_n ?_
            refine CW.region ?_
            refine LW.add_lit (w64_succ hlt2 s57.le) wn rfl rfl rfl ?_
            refine LW.move wn rfl rfl ?_
            refine LW.nil ?_
            refine EW.sub (G := [(49, .slice oa54 ([(S_t50.mk a0 a1 a2), (S_t50.mk a0 y32 x42), (S_t50.mk y24 x48 y49)]).length c55), (50, .int .i64 (([(S_t50.mk a0 a1 a2), (S_t50.mk a0 y32 x42), (S_t50.mk y24 x48 y49)]).length : Int)), (51, .int .i64 ((k70 + 1 : Nat) : Int))]) ⟨rfl, rfl, rfl, trivial⟩ ?_
            exact EW.join_n ⟨_, Nat.lt_succ_self _, _, k70 + 1, rem71, rfl, hd, rfl, cx, s57, hm⟩
    · rintro _ w65 ⟨y60, lab66, hsr_, rfl, cx, _⟩
      have hm := hs64 _ hsr_; clear hsr_
      refine EW.seq_n ?_
      refine CW.seq ?_
      refine CW.region ?_
      obtain ⟨y247, h251, hm_⟩ := bnd_some hm; clear hm; have hm := hm_; clear hm_
      refine LW.call kFn_10 (c_coreseclaw18_awake h251 cx.top) wn rfl rfl ?_
      rintro _ w248 ⟨rfl, e249, _⟩; refine ⟨_, rfl, ?_⟩
      replace cx := cx.step e249 rfl
      clear e249
      refine LW.assign wn rfl rfl ?_
      refine LW.nil ?_
      refine EW.seq_n ?_
      refine CW.ret ?_
      obtain rfl := Option.some.inj hm
      exact EW.ret1 rfl rfl ⟨rfl, (cx.ste t), trivial⟩
end Go.Proofs.Ytaefnnamjphieaa
