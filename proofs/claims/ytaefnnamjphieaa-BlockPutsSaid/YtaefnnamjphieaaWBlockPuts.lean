/-
  The law BlockPuts: its model, and that it computes it. No condition but that the model has a value.
-/
import Derived.Test.YtaefnnamjphieaaPCoreseclaw18
namespace Go.Proofs.Ytaefnnamjphieaa
open Go.Gk Go.RowKit
set_option linter.unusedVariables false in
def m_coreseclaw18_BlockPuts_l2 (x122 : List S_api_Partial) : List S_t35 → Nat → Option (Bool ⊕ Unit)
    | [], k281 => some (Sum.inr ())
    | x283 :: rem282, k281 => bnd (m_block_Put x122 x283.p x283.k (S_api_Block.mk x283.b.Num x283.b.More x283.b.Size) x283.c x283.t) fun y302 =>
  bnd (m_coresecref18_Put x122 x283.p x283.k (S_api_Block.mk x283.b.Num x283.b.More x283.b.Size) x283.c x283.t) fun y313 =>
  bnd (bnd (m_coresecref18_Same y302.1 y313.1) fun y328 =>
  letm (!y328) fun x333 =>
  (cond x333 (some (true))
   (letm (y302.2.1 != y313.2.1) fun x336 =>
  (cond x336 (some (true))
   (letm (y302.2.2.1 != y313.2.2.1) fun x339 =>
  (cond x339 (some (true))
   (letm (y302.2.2.2 != y313.2.2.2) fun x342 =>
  some (x342))))))) : Option (Bool)) fun y324 =>
  (cond y324 (some (Sum.inl false))
   (m_coreseclaw18_BlockPuts_l2 x122 rem282 (k281 + 1)))
set_option linter.unusedVariables false in
def m_coreseclaw18_BlockPuts_l1 (a2 : Int) (a3 : List UInt8) (a4 : S_api_Block) (a5 : List UInt8) (a6 : Int) (y60 : Int) (y67 : Int) : List (List S_api_Partial) → Nat → Option (Bool ⊕ Unit)
    | [], k120 => some (Sum.inr ())
    | x122 :: rem121, k120 => bnd (m_block_Valid x122) fun y130 =>
  bnd (m_coresecref18_Valid x122) fun y135 =>
  letm (y130 != y135) fun x140 =>
  (cond x140 (some (Sum.inl false))
   (bnd (m_coresecmake_Mod a2 2) fun y148 =>
  bnd (Gk.quo a2 2) fun x153 =>
  bnd (m_coresecmake_Mod x153 4) fun y155 =>
  letm (toU8 y155) fun x160 =>
  letm (toU64 y60) fun x169 =>
  bnd (Gk.shl 16 (x169.toNat : Int)) fun x171 =>
  bnd (Gk.quo a6 7) fun x173 =>
  bnd (m_coresecmake_Mod x173 3) fun y175 =>
  bnd (Gk.quo y175 2) fun x180 =>
  letm (w64 (x171 - x180)) fun x183 =>
  bnd (m_coresecmake_Some a6 x183) fun y186 =>
  bnd (m_coresecmake_Mod a6 200) fun y194 =>
  bnd (m_coresecmake_Mod a2 3) fun y210 =>
  bnd (m_coresecmake_Some a6 16) fun y221 =>
  bndS (m_coreseclaw18_BlockPuts_l2 x122 ([(S_t35.mk a2 a3 (S_api_Block.mk a4.Num a4.More a4.Size) a5 a6), (S_t35.mk y148 ([x160]) (S_api_Block.mk y67 a4.More y60) y186 y194), (S_t35.mk y210 ([(9 : UInt8)]) (S_api_Block.mk 0 true 0) y221 41)]) 0 : Option (Bool ⊕ Unit)) Sum.inl fun y271 =>
  m_coreseclaw18_BlockPuts_l1 a2 a3 a4 a5 a6 y60 y67 rem121 (k120 + 1)))
set_option linter.unusedVariables false in
def m_coreseclaw18_BlockPuts (a0 : List S_api_Partial) (a1 : List Int) (a2 : Int) (a3 : List UInt8) (a4 : S_api_Block) (a5 : List UInt8) (a6 : Int) : Option (Bool) :=
  bnd (letm (decide (20 < (a0.length : Int))) fun x22 =>
  (cond x22 (some (true))
   (bnd (m_coresecmake_Short a3) fun y25 =>
  letm (!y25) fun x30 =>
  (cond x30 (some (true))
   (letm (decide (3000 < (a5.length : Int))) fun x33 =>
  some (x33))))) : Option (Bool)) fun y18 =>
  (cond y18 (bnd (m_coreseclaw18_awake ) fun y35 =>
  some y35)
   (bnd (m_coresecmake_New a1) fun y40 =>
  bnd (m_coreseclaw18_partials (S_coresecmake_Deck.mk y40.L y40.At)) fun y51 =>
  bnd (m_coresecmake_Mod a4.Size 2) fun y60 =>
  bnd (m_coresecmake_Mod a4.Num 4) fun y67 =>
  bnd (app ([] : List S_api_Partial) y51.1) fun x89 =>
  bnd (app x89 y51.1) fun x96 =>
  bndS (m_coreseclaw18_BlockPuts_l1 a2 a3 a4 a5 a6 y60 y67 ([a0, y51.1, x96]) 0 : Option (Bool ⊕ Unit)) (fun q => q) fun y110 =>
  bnd (m_coreseclaw18_awake ) fun y344 =>
  some y344))
set_option maxRecDepth 100000 in
set_option maxHeartbeats 2000000 in
theorem c_coreseclaw18_BlockPuts {lab : Lab} {w : World} {a0 : List S_api_Partial} {a1 : List Int} {a2 : Int} {a3 : List UInt8} {a4 : S_api_Block} {a5 : List UInt8} {a6 : Int} {r : Bool} (hm : m_coreseclaw18_BlockPuts a0 a1 a2 a3 a4 a5 a6 = some r) (t : Top lab w) {oa1 : Option Addr} {c2 : Nat} (s3 : SL R_api_Partial lab w oa1 c2 a0) {oa4 : Option Addr} {c5 : Nat} (s6 : SL Rep.i64 lab w oa4 c5 a1) {oa7 : Option Addr} {c8 : Nat} (s9 : SL Rep.u8 lab w oa7 c8 a3) {oa10 : Option Addr} {c11 : Nat} (s12 : SL Rep.u8 lab w oa10 c11 a5) : Calls Try.prog 3 [.slice oa1 a0.length c2, .slice oa4 a1.length c5, .int .i64 a2, .slice oa7 a3.length c8, .agg ([.int .i64 a4.Num, .bool a4.More, .int .i64 a4.Size] : List Value).toArray, .slice oa10 a5.length c11, .int .i64 a6].toArray w (fun e w' => e = .returned (.bool r) ∧ Ste lab 0 w lab w' ∧ True) := by
  refine enter Try.func3 rfl 176 rfl rfl ?_
  have cx := Cx.start t
  replace s3 := s3.keep Keeps.lin
  replace s6 := s6.keep Keeps.lin
  replace s9 := s9.keep Keeps.lin
  replace s12 := s12.keep Keeps.lin
  refine CW.sub (G := [(0, .slice oa1 a0.length c2), (1, .slice oa4 a1.length c5), (2, .int .i64 a2), (3, .slice oa7 a3.length c8), (4, .agg ([.int .i64 a4.Num, .bool a4.More, .int .i64 a4.Size] : List Value).toArray), (5, .slice oa10 a5.length c11), (6, .int .i64 a6)]) ⟨rfl, rfl, rfl, rfl, rfl, rfl, rfl, trivial⟩ ?_
  unfold m_coreseclaw18_BlockPuts at hm
  refine CW.seq ?_
  refine CW.region ?_
  refine LW.box 21 [.int .i64 a4.Num, .bool a4.More, .int .i64 a4.Size] rfl rfl cx.top wn rfl ?_
  intro g13 lab14 w15 e16 b17
  replace cx := cx.step e16 rfl
  replace s3 := s3.step e16
  replace s6 := s6.step e16
  replace s9 := s9.step e16
  replace s12 := s12.step e16
  clear e16
  refine LW.assign wn rfl rfl ?_
  refine LW.nil ?_
  refine EW.seq_n ?_
  refine CW.seq ?_
  refine CW.seq ?_
  obtain ⟨y18, h19, hm_⟩ := bnd_some hm; clear hm
  refine CW.join_any (fun F_ w20 => ∃ (lab21 : Lab) , F_ = [(0, .slice oa1 a0.length c2), (1, .slice oa4 a1.length c5), (2, .int .i64 a2), (3, .slice oa7 a3.length c8), (5, .slice oa10 a5.length c11), (6, .int .i64 a6), (11, .pointer (some ⟨g13, 0, none⟩)), (44, .bool y18)] ∧ Cx [] w lab w20 lab21 ∧ SL R_api_Partial lab21 w20 oa1 c2 a0 ∧ SL Rep.i64 lab21 w20 oa4 c5 a1 ∧ SL Rep.u8 lab21 w20 oa7 c8 a3 ∧ SL Rep.u8 lab21 w20 oa10 c11 a5 ∧ Box lab21 w20 21 g13 26 [.int .i64 a4.Num, .bool a4.More, .int .i64 a4.Size] ∧ True) ?_ ?_
  · have hm := h19; clear h19
    refine CW.region ?_
    refine LW.move wn rfl rfl ?_
    refine LW.len kUnd_22 wn rfl rfl ?_
    refine LW.gtr hm wn rfl rfl rfl ?_; clear hm; intro x22 hm
    refine LW.move wn rfl rfl ?_
    rcases Bool.eq_false_or_eq_true x22 with hb24 | hb24
    · replace hm := cond_t hm hb24
      refine LW.skip 35 rfl (bk rfl hb24) rfl rfl ?_
      refine LW.skip 35 rfl (bk rfl hb24) rfl rfl ?_
      refine LW.skip 35 rfl (bk rfl hb24) rfl rfl ?_
      refine LW.pick_t wn rfl (bk rfl hb24) rfl ?_
      refine LW.move wn rfl rfl ?_
      refine LW.skip 40 rfl rfl rfl rfl ?_
      refine LW.skip 40 rfl rfl rfl rfl ?_
      refine LW.skip 40 rfl rfl rfl rfl ?_
      refine LW.pick_t wn rfl rfl rfl ?_
      refine LW.nil ?_
      obtain rfl := Option.some.inj hm
      refine EW.sub (G := [(0, .slice oa1 a0.length c2), (1, .slice oa4 a1.length c5), (2, .int .i64 a2), (3, .slice oa7 a3.length c8), (5, .slice oa10 a5.length c11), (6, .int .i64 a6), (11, .pointer (some ⟨g13, 0, none⟩)), (44, .bool true)]) ⟨rfl, rfl, rfl, rfl, rfl, rfl, rfl, rfl, trivial⟩ ?_
      exact EW.join_n ⟨_, rfl, cx, s3, s6, s9, s12, b17, trivial⟩
    · replace hm := cond_f hm hb24
      refine LW.move (ws 35 rfl (bk rfl hb24)) rfl rfl ?_
      obtain ⟨y25, h29, hm_⟩ := bnd_some hm; clear hm; have hm := hm_; clear hm_
      refine LW.call kFn_9 (c_coresecmake_Short h29 cx.top s9) (ws 35 rfl (bk rfl hb24)) rfl rfl ?_
      rintro _ w26 ⟨rfl, e27, _⟩; refine ⟨_, rfl, ?_⟩
      replace cx := cx.step e27 rfl
      replace s3 := s3.step e27
      replace s6 := s6.step e27
      replace s9 := s9.step e27
      replace s12 := s12.step e27
      replace b17 := b17.step e27 rfl
      clear e27
      refine LW.not hm (ws 35 rfl (bk rfl hb24)) rfl rfl ?_; clear hm; intro x30 hm
      refine LW.pick_f wn rfl (bk rfl hb24) rfl ?_
      refine LW.move wn rfl rfl ?_
      rcases Bool.eq_false_or_eq_true x30 with hb32 | hb32
      · replace hm := cond_t hm hb32
        refine LW.skip 40 rfl (bk rfl hb32) rfl rfl ?_
        refine LW.skip 40 rfl (bk rfl hb32) rfl rfl ?_
        refine LW.skip 40 rfl (bk rfl hb32) rfl rfl ?_
        refine LW.pick_t wn rfl (bk rfl hb32) rfl ?_
        refine LW.nil ?_
        obtain rfl := Option.some.inj hm
        refine EW.sub (G := [(0, .slice oa1 a0.length c2), (1, .slice oa4 a1.length c5), (2, .int .i64 a2), (3, .slice oa7 a3.length c8), (5, .slice oa10 a5.length c11), (6, .int .i64 a6), (11, .pointer (some ⟨g13, 0, none⟩)), (44, .bool true)]) ⟨rfl, rfl, rfl, rfl, rfl, rfl, rfl, rfl, trivial⟩ ?_
        exact EW.join_n ⟨_, rfl, cx, s3, s6, s9, s12, b17, trivial⟩
      · replace hm := cond_f hm hb32
        refine LW.move (ws 40 rfl (bk rfl hb32)) rfl rfl ?_
        refine LW.len kUnd_24 (ws 40 rfl (bk rfl hb32)) rfl rfl ?_
        refine LW.gtr hm (ws 40 rfl (bk rfl hb32)) rfl rfl rfl ?_; clear hm; intro x33 hm
        refine LW.pick_f wn rfl (bk rfl hb32) rfl ?_
        refine LW.nil ?_
        obtain rfl := Option.some.inj hm
        refine EW.sub (G := [(0, .slice oa1 a0.length c2), (1, .slice oa4 a1.length c5), (2, .int .i64 a2), (3, .slice oa7 a3.length c8), (5, .slice oa10 a5.length c11), (6, .int .i64 a6), (11, .pointer (some ⟨g13, 0, none⟩)), (44, .bool x33)]) ⟨rfl, rfl, rfl, rfl, rfl, rfl, rfl, rfl, trivial⟩ ?_
        exact EW.join_n ⟨_, rfl, cx, s3, s6, s9, s12, b17, trivial⟩
  · rintro _ w20 ⟨lab21, rfl, cx, s3, s6, s9, s12, b17, _⟩
    have hm := hm_; clear hm_
    refine EW.seq_n ?_
    refine CW.cond (b := y18) rfl (fun hb34 => ?_) (fun hb34 => ?_)
    · replace hm := cond_t hm hb34
      refine CW.seq ?_
      refine CW.region ?_
      obtain ⟨y35, h39, hm_⟩ := bnd_some hm; clear hm; have hm := hm_; clear hm_
      refine LW.call kFn_10 (c_coreseclaw18_awake h39 cx.top) wn rfl rfl ?_
      rintro _ w36 ⟨rfl, e37, _⟩; refine ⟨_, rfl, ?_⟩
      replace cx := cx.step e37 rfl
      replace s3 := s3.step e37
      replace s6 := s6.step e37
      replace s9 := s9.step e37
      replace s12 := s12.step e37
      replace b17 := b17.step e37 rfl
      clear e37
      refine LW.assign wn rfl rfl ?_
      refine LW.nil ?_
      refine EW.seq_n ?_
      refine CW.ret ?_
      refine EW.seq_r ?_
      obtain rfl := Option.some.inj hm
      exact EW.ret1 rfl rfl ⟨rfl, (cx.ste t), trivial⟩
    · replace hm := cond_f hm hb34
      refine CW.skip ?_
      refine EW.seq_n ?_
      refine CW.seq ?_
      refine CW.region ?_
      refine LW.move wn rfl rfl ?_
      obtain ⟨y40, h44, hm_⟩ := bnd_some hm; clear hm; have hm := hm_; clear hm_
      refine LW.call kFn_11 (c_coresecmake_New (k := 25) h44 cx.top s6) wn rfl rfl ?_
      rintro _ w41 ⟨lab45, g46, oa48, c49, rfl, e42, b47, s50, _⟩; refine ⟨_, rfl, ?_⟩
      replace cx := cx.step e42 rfl
      replace s3 := s3.step e42
      replace s6 := s6.step e42
      replace s9 := s9.step e42
      replace s12 := s12.step e42
      replace b17 := b17.step e42 rfl
      clear e42
      refine LW.assign wn rfl rfl ?_
      refine LW.nil ?_
      refine EW.seq_n ?_
      refine CW.seq ?_
      refine CW.region ?_
      refine LW.move wn rfl rfl ?_
      obtain ⟨y51, h55, hm_⟩ := bnd_some hm; clear hm; have hm := hm_; clear hm_
      refine LW.call kFn_12 (c_coreseclaw18_partials h55 cx.top b47 s50) wn rfl rfl ?_
      rintro _ w52 ⟨oa56, c57, rfl, e53, b59, s58, _⟩; refine ⟨_, rfl, ?_⟩
      replace cx := cx.step e53 rfl
      replace s3 := s3.step e53
      replace s9 := s9.step e53
      replace s12 := s12.step e53
      replace b17 := b17.step e53 rfl
      replace s50 := s50.step e53
      clear b47
      clear e53
      refine LW.assign wn rfl rfl ?_
      refine LW.nil ?_
      refine EW.seq_n ?_
      refine CW.seq ?_
      refine CW.region ?_
      refine LW.fldB 2 kFld_26_2 rfl wn rfl rfl ?_
      refine LW.loadB1 b17 kOne_3 rfl wn rfl rfl ?_
      obtain ⟨y60, h64, hm_⟩ := bnd_some hm; clear hm; have hm := hm_; clear hm_
      refine LW.call kFn_13 (c_coresecmake_Mod h64 cx.top) wn rfl rfl ?_
      rintro _ w61 ⟨rfl, e62, _⟩; refine ⟨_, rfl, ?_⟩
      replace cx := cx.step e62 rfl
      replace s3 := s3.step e62
      replace s9 := s9.step e62
      replace s12 := s12.step e62
      replace b17 := b17.step e62 rfl
      replace s58 := s58.step e62
      clear e62
      refine LW.assign wn rfl rfl ?_
      refine LW.nil ?_
      refine EW.seq_n ?_
      refine CW.seq ?_
      obtain ⟨y67, hx_y67, hm_⟩ := bnd_some hm; clear hm; have hm := hm_; clear hm_
      refine CW.sub (G := [(0, .slice oa1 a0.length c2), (2, .int .i64 a2), (3, .slice oa7 a3.length c8), (5, .slice oa10 a5.length c11), (6, .int .i64 a6), (11, .pointer (some ⟨g13, 0, none⟩)), (16, .slice oa56 y51.1.length c57), (17, .int .i64 y60)]) ⟨rfl, rfl, rfl, rfl, rfl, rfl, rfl, rfl, trivial⟩ ?_
      refine CW.drawL (fun i_ => []) (fun i_ => by (try dsimp only); (repeat' split) <;> rfl) kMix_ 8 (by kernel_rfl) cx.top ?_
      intro w80 e81
      replace cx := cx.step e81 rfl
      replace s3 := s3.step e81
      replace s9 := s9.step e81
      replace s12 := s12.step e81
      replace b17 := b17.step e81 rfl
      replace s58 := s58.step e81
      clear e81
      refine ⟨[(fun L_ lab_ w_ v_ => v_ = .pointer (some ⟨g13, 0, none⟩) ∧ True),
    (fun L_ lab_ w_ v_ => v_ = .int .i64 a4.Num ∧ True),
    (fun L_ lab_ w_ v_ => v_ = .int .i64 y67 ∧ True),
    (fun L_ lab_ w_ v_ => v_ = .pointer (some ⟨g13, 1, none⟩) ∧ True),
    (fun L_ lab_ w_ v_ => v_ = .bool a4.More ∧ True),
    (fun L_ lab_ w_ v_ => v_ = .int .i64 y60 ∧ True),
    (fun L_ lab_ w_ v_ => v_ = .agg ([.int .i64 y67, .bool a4.More, .int .i64 y60] : List Value).toArray ∧ True),
    (fun L_ lab_ w_ v_ => ∃ (g75 : Nat), v_ = .pointer (some ⟨g75, 0, none⟩) ∧ Box lab_ w_ 28 g75 26 [.int .i64 0, .bool false, .int .i64 0] ∧ True)], (fun L_ lab_ w_ => Cx [] w lab w_ lab_ ∧ SL R_api_Partial lab_ w_ oa1 c2 a0 ∧ SL Rep.u8 lab_ w_ oa7 c8 a3 ∧ SL Rep.u8 lab_ w_ oa10 c11 a5 ∧ Box lab_ w_ 21 g13 26 [.int .i64 a4.Num, .bool a4.More, .int .i64 a4.Size] ∧ SL R_api_Partial lab_ w_ oa56 c57 y51.1 ∧ True), ?_, ⟨cx, s3, s9, s12, b17, s58, trivial⟩, ?_, ?_⟩
      · exact ⟨by rintro i_ L_ lab_ w_ lab2_ w2_ v_ hne_ hd_ hk_ hp_ ⟨hv_, _⟩; exact ⟨hv_, trivial⟩, by rintro i_ L_ lab_ w_ lab2_ w2_ v_ hne_ hd_ hk_ hp_ ⟨hv_, _⟩; exact ⟨hv_, trivial⟩, by rintro i_ L_ lab_ w_ lab2_ w2_ v_ hne_ hd_ hk_ hp_ ⟨hv_, _⟩; exact ⟨hv_, trivial⟩, by rintro i_ L_ lab_ w_ lab2_ w2_ v_ hne_ hd_ hk_ hp_ ⟨hv_, _⟩; exact ⟨hv_, trivial⟩, by rintro i_ L_ lab_ w_ lab2_ w2_ v_ hne_ hd_ hk_ hp_ ⟨hv_, _⟩; exact ⟨hv_, trivial⟩, by rintro i_ L_ lab_ w_ lab2_ w2_ v_ hne_ hd_ hk_ hp_ ⟨hv_, _⟩; exact ⟨hv_, trivial⟩, by rintro i_ L_ lab_ w_ lab2_ w2_ v_ hne_ hd_ hk_ hp_ ⟨hv_, _⟩; exact ⟨hv_, trivial⟩, by rintro i_ L_ lab_ w_ lab2_ w2_ v_ hne_ hd_ hk_ hp_ ⟨g75, hv_, b79, _⟩; exact ⟨g75, hv_, (b79.ke hk_ (by (try dsimp only); (repeat' split) <;> first | rfl | contradiction)), trivial⟩, trivial⟩
      · refine (ob_succ (ob_succ (ob_succ (ob_succ (ob_succ (ob_succ (ob_succ (ob_succ ob_nil ?_) ?_) ?_) ?_) ?_) ?_) ?_) ?_)
        · intro o_ L_ F_ lab_ w_ ho_ hL_ hw_ hcl_ hb_ hr_ hq_; obtain rfl := Option.some.inj (ho_ : some _ = some o_); obtain ⟨cx, s3, s9, s12, b17, s58, _⟩ := hq_
          have hl11 := hb_ 11 _ rfl
          refine LW.fldB 0 kFld_26_0 rfl wn rfl hl11 ?_
          refine LW.nil ?_; intro a_ ha_
          exact ⟨rfl, _, _, ha_, ⟨rfl, trivial⟩, Ke.refl, cx, s3, s9, s12, b17, s58, trivial⟩
        · intro o_ L_ F_ lab_ w_ ho_ hL_ hw_ hcl_ hb_ hr_ hq_; obtain rfl := Option.some.inj (ho_ : some _ = some o_); obtain ⟨cx, s3, s9, s12, b17, s58, _⟩ := hq_
          obtain ⟨q65, hl53, rfl, _⟩ := hr_ 0 (by decide) (hw_ 0 (by kernel_rfl))
          replace hl53 : Gk.look F_ 53 = some (.pointer (some ⟨g13, 0, none⟩)) := hl53
          refine LW.loadB1 b17 kOne_3 rfl wn rfl hl53 ?_
          refine LW.nil ?_; intro a_ ha_
          exact ⟨rfl, _, _, ha_, ⟨rfl, trivial⟩, Ke.refl, cx, s3, s9, s12, b17, s58, trivial⟩
        · intro o_ L_ F_ lab_ w_ ho_ hL_ hw_ hcl_ hb_ hr_ hq_; obtain rfl := Option.some.inj (ho_ : some _ = some o_); obtain ⟨cx, s3, s9, s12, b17, s58, _⟩ := hq_
          obtain ⟨q66, hl54, rfl, _⟩ := hr_ 1 (by decide) (hw_ 1 (by kernel_rfl))
          replace hl54 : Gk.look F_ 54 = some (.int .i64 a4.Num) := hl54
          refine LW.call kFn_13 (c_coresecmake_Mod hx_y67 cx.top) wn rfl (evs_cons hl54 (evs_cons rfl evs_nil)) ?_
          rintro _ w68 ⟨rfl, e69, _⟩; refine ⟨_, rfl, ?_⟩
          replace cx := cx.step e69 rfl
          replace s3 := s3.step e69
          replace s9 := s9.step e69
          replace s12 := s12.step e69
          replace b17 := b17.step e69 rfl
          replace s58 := s58.step e69
          refine LW.nil ?_; intro a_ ha_
          exact ⟨rfl, _, _, ha_, ⟨rfl, trivial⟩, e69.ke0, cx, s3, s9, s12, b17, s58, trivial⟩
        · intro o_ L_ F_ lab_ w_ ho_ hL_ hw_ hcl_ hb_ hr_ hq_; obtain rfl := Option.some.inj (ho_ : some _ = some o_); obtain ⟨cx, s3, s9, s12, b17, s58, _⟩ := hq_
          have hl11 := hb_ 11 _ rfl
          refine LW.fldB 1 kFld_26_1 rfl wn rfl hl11 ?_
          refine LW.nil ?_; intro a_ ha_
          exact ⟨rfl, _, _, ha_, ⟨rfl, trivial⟩, Ke.refl, cx, s3, s9, s12, b17, s58, trivial⟩
        · intro o_ L_ F_ lab_ w_ ho_ hL_ hw_ hcl_ hb_ hr_ hq_; obtain rfl := Option.some.inj (ho_ : some _ = some o_); obtain ⟨cx, s3, s9, s12, b17, s58, _⟩ := hq_
          obtain ⟨q71, hl56, rfl, _⟩ := hr_ 3 (by decide) (hw_ 3 (by kernel_rfl))
          replace hl56 : Gk.look F_ 56 = some (.pointer (some ⟨g13, 1, none⟩)) := hl56
          refine LW.loadB1 b17 kOne_4 rfl wn rfl hl56 ?_
          refine LW.nil ?_; intro a_ ha_
          exact ⟨rfl, _, _, ha_, ⟨rfl, trivial⟩, Ke.refl, cx, s3, s9, s12, b17, s58, trivial⟩
        · exact ob_moveb (v := .int .i64 y60) rfl (fun _ h_ => h_ _ _ rfl) rfl (fun _ _ _ => ⟨rfl, trivial⟩) (fun _ _ _ h_ => h_)
        · intro o_ L_ F_ lab_ w_ ho_ hL_ hw_ hcl_ hb_ hr_ hq_; obtain rfl := Option.some.inj (ho_ : some _ = some o_); obtain ⟨cx, s3, s9, s12, b17, s58, _⟩ := hq_
          obtain ⟨q72, hl55, rfl, _⟩ := hr_ 2 (by decide) (hw_ 2 (by kernel_rfl))
          replace hl55 : Gk.look F_ 55 = some (.int .i64 y67) := hl55
          obtain ⟨q73, hl57, rfl, _⟩ := hr_ 4 (by decide) (hw_ 4 (by kernel_rfl))
          replace hl57 : Gk.look F_ 57 = some (.bool a4.More) := hl57
          obtain ⟨q74, hl58, rfl, _⟩ := hr_ 5 (by decide) (hw_ 5 (by kernel_rfl))
          replace hl58 : Gk.look F_ 58 = some (.int .i64 y60) := hl58
          refine LW.build (vs := [(0, .int .i64 y67), (1, .bool a4.More), (2, .int .i64 y60)]) (cs := [.int .i64 y67, .bool a4.More, .int .i64 y60]) (mp_cons hl55 (mp_cons hl57 (mp_cons hl58 mp_nil))) ((kBuilt_26 _).trans rfl) wn rfl ?_
          refine LW.nil ?_; intro a_ ha_
          exact ⟨rfl, _, _, ha_, ⟨rfl, trivial⟩, Ke.refl, cx, s3, s9, s12, b17, s58, trivial⟩
        · intro o_ L_ F_ lab_ w_ ho_ hL_ hw_ hcl_ hb_ hr_ hq_; obtain rfl := Option.some.inj (ho_ : some _ = some o_); obtain ⟨cx, s3, s9, s12, b17, s58, _⟩ := hq_
          refine LW.alloc 28 [.int .i64 0, .bool false, .int .i64 0] kZero_26 rfl cx.top wn rfl ?_
          intro g75 lab76 w77 e78 b79
          replace cx := cx.step e78 rfl
          replace s3 := s3.step e78
          replace s9 := s9.step e78
          replace s12 := s12.step e78
          replace b17 := b17.step e78 rfl
          replace s58 := s58.step e78
          refine LW.nil ?_; intro a_ ha_
          exact ⟨rfl, _, _, ha_, ⟨g75, rfl, b79, trivial⟩, e78.ke0, cx, s3, s9, s12, b17, s58, trivial⟩
      · intro F_ lab_ w_ hb_ hr_ hq_; obtain ⟨cx, s3, s9, s12, b17, s58, _⟩ := hq_
        obtain ⟨q82, hl59, rfl, _⟩ := hr_ 6 (by decide)
        obtain ⟨q85, hl18, g83, rfl, b84, _⟩ := hr_ 7 (by decide)
        refine LW.sub (G := [(0, .slice oa1 a0.length c2), (2, .int .i64 a2), (3, .slice oa7 a3.length c8), (5, .slice oa10 a5.length c11), (6, .int .i64 a6), (11, .pointer (some ⟨g13, 0, none⟩)), (16, .slice oa56 y51.1.length c57), (17, .int .i64 y60), (59, .agg ([.int .i64 y67, .bool a4.More, .int .i64 y60] : List Value).toArray), (18, .pointer (some ⟨g83, 0, none⟩))]) ⟨hb_ 0 _ rfl, hb_ 2 _ rfl, hb_ 3 _ rfl, hb_ 5 _ rfl, hb_ 6 _ rfl, hb_ 11 _ rfl, hb_ 16 _ rfl, hb_ 17 _ rfl, hl59, hl18, trivial⟩ ?_
        simp only [List.drop_succ_cons, List.drop_zero]
        refine LW.storeBn [.int .i64 y67, .bool a4.More, .int .i64 y60] [.int .i64 y67, .bool a4.More, .int .i64 y60] b84 cx.top rfl kAgg_26 rfl rfl rfl rfl wn rfl rfl ?_
        intro w86 e87 b88; clear b84
        replace cx := cx.step e87 rfl
        replace s3 := s3.step e87
        replace s9 := s9.step e87
        replace s12 := s12.step e87
        replace b17 := b17.step e87 rfl
        replace s58 := s58.step e87
        clear e87
        refine LW.nil ?_
        refine EW.seq_n ?_
        refine CW.seq ?_
        refine CW.region ?_
        refine LW.move wn rfl rfl ?_
        refine LW.append (ρ := R_api_Partial) (xs := ([] : List S_api_Partial)) (ys := y51.1) hm (Own.nil (k := 29)) (SL.flat' (lab := _) (c := c57) s58) cx.top rfl kSl_22 rfl wn rfl rfl rfl ?_; clear hm; intro x89 oa90 c91 lab92 w93 hm e94 o95
        replace cx := cx.step e94 rfl
        replace s3 := s3.step e94
        replace s9 := s9.step e94
        replace s12 := s12.step e94
        replace b17 := b17.step e94 rfl
        replace s58 := s58.step e94
        replace b88 := b88.step e94 rfl
        clear e94
        refine LW.move wn rfl rfl ?_
        refine LW.append (ρ := R_api_Partial) (xs := x89) (ys := y51.1) hm o95 (SL.flat' (lab := _) (c := c57) s58) cx.top rfl kSl_22 rfl wn rfl rfl rfl ?_; clear hm; intro x96 oa97 c98 lab99 w100 hm e101 o102
        replace cx := cx.step e101 rfl
        replace s3 := s3.step e101
        replace s9 := s9.step e101
        replace s12 := s12.step e101
        replace b17 := b17.step e101 rfl
        replace s58 := s58.step e101
        replace b88 := b88.step e101 rfl
        clear e101
        refine LW.assign wn rfl rfl ?_
        refine LW.nil ?_
        refine EW.seq_n ?_
        refine CW.seq ?_
        refine CW.seq ?_
        refine CW.region ?_
        refine LW.move wn rfl rfl ?_
        refine LW.move wn rfl rfl ?_
        refine LW.move wn rfl rfl ?_
        have s103 := Own.view o102; replace cx := cx.mask (k := 29) rfl
        replace s3 := s3.keep (Keeps.mask (k := 29))
        replace s9 := s9.keep (Keeps.mask (k := 29))
        replace s12 := s12.keep (Keeps.mask (k := 29))
        replace b17 := b17.mask (k' := 29) rfl
        replace s58 := s58.keep (Keeps.mask (k := 29))
        replace b88 := b88.mask (k' := 29) rfl
        refine LW.buildSlice (ρ := (Rep.sl R_api_Partial)) (vs := [(0, .slice oa1 a0.length c2), (1, .slice oa56 y51.1.length c57), (2, .slice oa97 x96.length c98)]) (css := [[.slice oa1 a0.length c2], [.slice oa56 y51.1.length c57], [.slice oa97 x96.length c98]]) (xs := [a0, y51.1, x96]) rfl kSl_33 kZero_22 (by kernel_rfl) rfl rfl ⟨⟨_, _, rfl, s3⟩, ⟨_, _, rfl, s58⟩, ⟨_, _, rfl, s103⟩, trivial⟩ cx.top wn rfl ?_
        intro oa104 c105 lab108 w109 e106 s107
        replace cx := cx.step e106 rfl
        replace s3 := s3.step e106
        replace s9 := s9.step e106
        replace s12 := s12.step e106
        replace b17 := b17.step e106 rfl
        replace s58 := s58.step e106
        replace b88 := b88.step e106 rfl
        replace s103 := s103.step e106
        clear e106
        refine LW.len kUnd_33 wn rfl rfl ?_
        refine LW.move wn rfl rfl ?_
        refine LW.nil ?_
        refine EW.seq_n ?_
        obtain ⟨s111, h112, hs113, hs114⟩ := bndS_some hm; clear hm
        refine CW.join_any (fun F_ w115 => ∃ (y110 : Unit) (lab116 : Lab) , s111 = .inr y110 ∧ F_ = [] ∧ Cx [] w lab w115 lab116 ∧ True) ?_ ?_
        · have hm := h112; clear h112
          refine CW.block ?_
          refine CW.sub (G := [(2, .int .i64 a2), (3, .slice oa7 a3.length c8), (5, .slice oa10 a5.length c11), (6, .int .i64 a6), (11, .pointer (some ⟨g13, 0, none⟩)), (17, .int .i64 y60), (18, .pointer (some ⟨g83, 0, none⟩)), (67, .slice oa104 ([a0, y51.1, x96]).length c105), (68, .int .i64 (([a0, y51.1, x96]).length : Int)), (69, .int .i64 0)]) ⟨rfl, rfl, rfl, rfl, rfl, rfl, rfl, rfl, rfl, rfl, trivial⟩ ?_
          refine CW.loop (fun n119 F_ w117 => ∃ (lab118 : Lab) (k120 : Nat) (rem121 : List (List S_api_Partial))  , n119 = rem121.length ∧ ([a0, y51.1, x96]).drop k120 = rem121 ∧ F_ = [(2, .int .i64 a2), (3, .slice oa7 a3.length c8), (5, .slice oa10 a5.length c11), (6, .int .i64 a6), (11, .pointer (some ⟨g13, 0, none⟩)), (17, .int .i64 y60), (18, .pointer (some ⟨g83, 0, none⟩)), (67, .slice oa104 ([a0, y51.1, x96]).length c105), (68, .int .i64 (([a0, y51.1, x96]).length : Int)), (69, .int .i64 ((k120 : Nat) : Int))] ∧ Cx [] w lab w117 lab118 ∧ SL Rep.u8 lab118 w117 oa7 c8 a3 ∧ SL Rep.u8 lab118 w117 oa10 c11 a5 ∧ Box lab118 w117 21 g13 26 [.int .i64 a4.Num, .bool a4.More, .int .i64 a4.Size] ∧ Box lab118 w117 28 g83 26 [.int .i64 y67, .bool a4.More, .int .i64 y60] ∧ SL (Rep.sl R_api_Partial) lab118 w117 oa104 c105 ([a0, y51.1, x96]) ∧ m_coreseclaw18_BlockPuts_l1 a2 a3 a4 a5 a6 y60 y67 rem121 k120 = some s111) _ ⟨_, 0, [a0, y51.1, x96], rfl, rfl, rfl, cx, s9, s12, b17, b88, s107, hm⟩ ?_
          rintro n119 _ w117 ⟨lab118, k120, rem121, rfl, hd, rfl, cx, s9, s12, b17, b88, s107, hm⟩
          rcases rem121 with _ | ⟨x122, rem121⟩
          · rw [m_coreseclaw18_BlockPuts_l1] at hm; have hlt := drop_nil hd
            refine CW.seq ?_
            refine CW.region ?_
            refine LW.lss_lit hlt wn rfl rfl rfl ?_
            refine LW.nil ?_
            refine EW.seq_n ?_
            refine CW.seq ?_
            refine CW.cond_f rfl ?_
            refine CW.exit ?_
            refine EW.seq_x ?_
            refine EW.join_x ?_
            refine EW.block_x ?_
            obtain rfl := Option.some.inj hm
            refine EW.sub (G := []) trivial ?_
            exact EW.join_n ⟨(), _, rfl, rfl, cx, trivial⟩
          · rw [m_coreseclaw18_BlockPuts_l1] at hm; obtain ⟨hlt, hix, hd, hlt2⟩ := drop_cons hd
            refine CW.seq ?_
            refine CW.region ?_
            refine LW.lss_lit hlt wn rfl rfl rfl ?_
            refine LW.nil ?_
            refine EW.seq_n ?_
            refine CW.seq ?_
            refine CW.cond_t rfl ?_
            refine CW.skip ?_
            refine EW.seq_n ?_
            refine CW.seq ?_
            refine CW.block ?_
            refine CW.seq ?_
            refine CW.region ?_
            refine LW.index (bnd_ret hix) s107 kSl_33 wn rfl rfl rfl ?_; intro x_ p123 cs124 hx_ hr125 ha126; cases hx_
            obtain ⟨oa127, c128, rfl, s129⟩ := hr125
            refine LW.loadA1 (ha126.cell0 rfl) kOne_22 wn rfl rfl ?_
            refine LW.assign wn rfl rfl ?_
            refine LW.nil ?_
            refine EW.seq_n ?_
            refine CW.seq ?_
            refine CW.seq ?_
            refine CW.region ?_
            refine LW.move wn rfl rfl ?_
            obtain ⟨y130, h134, hm_⟩ := bnd_some hm; clear hm; have hm := hm_; clear hm_
            refine LW.call kFn_14 (c_block_Valid h134 cx.top s129) wn rfl rfl ?_
            rintro _ w131 ⟨rfl, e132, _⟩; refine ⟨_, rfl, ?_⟩
            replace cx := cx.step e132 rfl
            replace s9 := s9.step e132
            replace s12 := s12.step e132
            replace b17 := b17.step e132 rfl
            replace b88 := b88.step e132 rfl
            replace s129 := s129.step e132
            replace s107 := s107.step e132
            clear e132
            refine LW.move wn rfl rfl ?_
            obtain ⟨y135, h139, hm_⟩ := bnd_some hm; clear hm; have hm := hm_; clear hm_
            refine LW.call kFn_15 (c_coresecref18_Valid h139 cx.top s129) wn rfl rfl ?_
            rintro _ w136 ⟨rfl, e137, _⟩; refine ⟨_, rfl, ?_⟩
            replace cx := cx.step e137 rfl
            replace s9 := s9.step e137
            replace s12 := s12.step e137
            replace b17 := b17.step e137 rfl
            replace b88 := b88.step e137 rfl
            replace s129 := s129.step e137
            replace s107 := s107.step e137
            clear e137
            refine LW.neb hm kUnd_4 wn rfl rfl rfl ?_; clear hm; intro x140 hm
            refine LW.nil ?_
            refine EW.seq_n ?_
            refine CW.cond (b := x140) rfl (fun hb141 => ?_) (fun hb141 => ?_)
            · replace hm := cond_t hm hb141
              refine CW.seq ?_
              refine CW.region ?_
              refine LW.assign wn rfl rfl ?_
              refine LW.nil ?_
              refine EW.seq_n ?_
              refine CW.ret ?_
              refine EW.seq_r ?_
              refine EW.block_r ?_
              refine EW.seq_r ?_
              refine EW.join_r ?_
              refine EW.block_r ?_
              refine EW.join_r ?_
              obtain rfl := Option.some.inj hm; have hm := hs113 _ rfl
              refine EW.seq_r ?_
              obtain rfl := Option.some.inj hm
              exact EW.ret1 rfl rfl ⟨rfl, (cx.ste t), trivial⟩
            · replace hm := cond_f hm hb141
              refine CW.skip ?_
              refine EW.seq_n ?_
              refine CW.seq ?_
              obtain ⟨y148, hx_y148, hm_⟩ := bnd_some hm; clear hm; have hm := hm_; clear hm_
              obtain ⟨x153, hx_x153, hm_⟩ := bnd_some hm; clear hm; have hm := hm_; clear hm_
              obtain ⟨y155, hx_y155, hm_⟩ := bnd_some hm; clear hm; have hm := hm_; clear hm_
              obtain ⟨x160, hx_x160, hm_⟩ := letm_some hm; clear hm; have hm := hm_; clear hm_
              obtain ⟨x169, hx_x169, hm_⟩ := letm_some hm; clear hm; have hm := hm_; clear hm_
              obtain ⟨x171, hx_x171, hm_⟩ := bnd_some hm; clear hm; have hm := hm_; clear hm_
              obtain ⟨x173, hx_x173, hm_⟩ := bnd_some hm; clear hm; have hm := hm_; clear hm_
              obtain ⟨y175, hx_y175, hm_⟩ := bnd_some hm; clear hm; have hm := hm_; clear hm_
              obtain ⟨x180, hx_x180, hm_⟩ := bnd_some hm; clear hm; have hm := hm_; clear hm_
              obtain ⟨x183, hx_x183, hm_⟩ := letm_some hm; clear hm; have hm := hm_; clear hm_
              obtain ⟨y186, hx_y186, hm_⟩ := bnd_some hm; clear hm; have hm := hm_; clear hm_
              obtain ⟨y194, hx_y194, hm_⟩ := bnd_some hm; clear hm; have hm := hm_; clear hm_
              obtain ⟨y210, hx_y210, hm_⟩ := bnd_some hm; clear hm; have hm := hm_; clear hm_
              obtain ⟨y221, hx_y221, hm_⟩ := bnd_some hm; clear hm; have hm := hm_; clear hm_
              refine CW.sub (G := [(2, .int .i64 a2), (3, .slice oa7 a3.length c8), (5, .slice oa10 a5.length c11), (6, .int .i64 a6), (11, .pointer (some ⟨g13, 0, none⟩)), (17, .int .i64 y60), (18, .pointer (some ⟨g83, 0, none⟩)), (21, .slice oa127 x122.length c128), (67, .slice oa104 ([a0, y51.1, x96]).length c105), (68, .int .i64 (([a0, y51.1, x96]).length : Int)), (69, .int .i64 ((k120 : Nat) : Int))]) ⟨rfl, rfl, rfl, rfl, rfl, rfl, rfl, rfl, rfl, rfl, rfl, trivial⟩ ?_
              refine CW.drawL (fun i_ => []) (fun i_ => by (try dsimp only); (repeat' split) <;> rfl) kMix_ 37 (by kernel_rfl) cx.top ?_
              intro w263 e264
              replace cx := cx.step e264 rfl
              replace s9 := s9.step e264
              replace s12 := s12.step e264
              replace b17 := b17.step e264 rfl
              replace b88 := b88.step e264 rfl
              replace s129 := s129.step e264
              replace s107 := s107.step e264
              clear e264
              refine ⟨[(fun L_ lab_ w_ v_ => v_ = .int .i64 a2 ∧ True),
    (fun L_ lab_ w_ v_ => v_ = .slice oa7 a3.length c8 ∧ True),
    (fun L_ lab_ w_ v_ => v_ = .agg ([.int .i64 a4.Num, .bool a4.More, .int .i64 a4.Size] : List Value).toArray ∧ True),
    (fun L_ lab_ w_ v_ => v_ = .slice oa10 a5.length c11 ∧ True),
    (fun L_ lab_ w_ v_ => v_ = .int .i64 a6 ∧ True),
    (fun L_ lab_ w_ v_ => v_ = .agg ([.int .i64 a2, .slice oa7 a3.length c8, .int .i64 a4.Num, .bool a4.More, .int .i64 a4.Size, .slice oa10 a5.length c11, .int .i64 a6] : List Value).toArray ∧ True),
    (fun L_ lab_ w_ v_ => v_ = .int .i64 a2 ∧ True),
    (fun L_ lab_ w_ v_ => v_ = .int .i64 y148 ∧ True),
    (fun L_ lab_ w_ v_ => v_ = .int .i64 a2 ∧ True),
    (fun L_ lab_ w_ v_ => v_ = .int .i64 x153 ∧ True),
    (fun L_ lab_ w_ v_ => v_ = .int .i64 y155 ∧ True),
    (fun L_ lab_ w_ v_ => v_ = .int .u8 (x160.toNat : Int) ∧ True),
    (fun L_ lab_ w_ v_ => ∃ (oa162 : Option Addr) (c163 : Nat), v_ = .slice oa162 ([x160]).length c163 ∧ SL Rep.u8 lab_ w_ oa162 c163 ([x160]) ∧ True),
    (fun L_ lab_ w_ v_ => v_ = .agg ([.int .i64 y67, .bool a4.More, .int .i64 y60] : List Value).toArray ∧ True),
    (fun L_ lab_ w_ v_ => v_ = .int .i64 a6 ∧ True),
    (fun L_ lab_ w_ v_ => v_ = .int .i64 y60 ∧ True),
    (fun L_ lab_ w_ v_ => v_ = .int .u64 (x169.toNat : Int) ∧ True),
    (fun L_ lab_ w_ v_ => v_ = .int .i64 x171 ∧ True),
    (fun L_ lab_ w_ v_ => v_ = .int .i64 a6 ∧ True),
    (fun L_ lab_ w_ v_ => v_ = .int .i64 x173 ∧ True),
    (fun L_ lab_ w_ v_ => v_ = .int .i64 y175 ∧ True),
    (fun L_ lab_ w_ v_ => v_ = .int .i64 x180 ∧ True),
    (fun L_ lab_ w_ v_ => v_ = .int .i64 x183 ∧ True),
    (fun L_ lab_ w_ v_ => ∃ (oa190 : Option Addr) (c191 : Nat), v_ = .slice oa190 y186.length c191 ∧ SL Rep.u8 lab_ w_ oa190 c191 y186 ∧ True),
    (fun L_ lab_ w_ v_ => v_ = .int .i64 a6 ∧ True),
    (fun L_ lab_ w_ v_ => v_ = .int .i64 y194 ∧ True),
    (fun L_ lab_ w_ v_ => ∃ (oa199 : Option Addr) (c200 : Nat) (oa204 : Option Addr) (c205 : Nat), v_ = .agg ([.int .i64 y148, .slice oa199 ([x160]).length c200, .int .i64 y67, .bool a4.More, .int .i64 y60, .slice oa204 y186.length c205, .int .i64 y194] : List Value).toArray ∧ SL Rep.u8 lab_ w_ oa199 c200 ([x160]) ∧ SL Rep.u8 lab_ w_ oa204 c205 y186 ∧ True),
    (fun L_ lab_ w_ v_ => v_ = .int .i64 a2 ∧ True),
    (fun L_ lab_ w_ v_ => v_ = .int .i64 y210 ∧ True),
    (fun L_ lab_ w_ v_ => ∃ (oa214 : Option Addr) (c215 : Nat), v_ = .slice oa214 ([(9 : UInt8)]).length c215 ∧ SL Rep.u8 lab_ w_ oa214 c215 ([(9 : UInt8)]) ∧ True),
    (fun L_ lab_ w_ v_ => v_ = .agg ([.int .i64 0, .bool true, .int .i64 0] : List Value).toArray ∧ True),
    (fun L_ lab_ w_ v_ => v_ = .int .i64 a6 ∧ True),
    (fun L_ lab_ w_ v_ => ∃ (oa225 : Option Addr) (c226 : Nat), v_ = .slice oa225 y221.length c226 ∧ SL Rep.u8 lab_ w_ oa225 c226 y221 ∧ True),
    (fun L_ lab_ w_ v_ => ∃ (oa229 : Option Addr) (c230 : Nat) (oa234 : Option Addr) (c235 : Nat), v_ = .agg ([.int .i64 y210, .slice oa229 ([(9 : UInt8)]).length c230, .int .i64 0, .bool true, .int .i64 0, .slice oa234 y221.length c235, .int .i64 41] : List Value).toArray ∧ SL Rep.u8 lab_ w_ oa229 c230 ([(9 : UInt8)]) ∧ SL Rep.u8 lab_ w_ oa234 c235 y221 ∧ True),
    (fun L_ lab_ w_ v_ => ∃ (oa253 : Option Addr) (c254 : Nat), v_ = .slice oa253 ([(S_t35.mk a2 a3 (S_api_Block.mk a4.Num a4.More a4.Size) a5 a6), (S_t35.mk y148 ([x160]) (S_api_Block.mk y67 a4.More y60) y186 y194), (S_t35.mk y210 ([(9 : UInt8)]) (S_api_Block.mk 0 true 0) y221 41)]).length c254 ∧ SL R_t35 lab_ w_ oa253 c254 ([(S_t35.mk a2 a3 (S_api_Block.mk a4.Num a4.More a4.Size) a5 a6), (S_t35.mk y148 ([x160]) (S_api_Block.mk y67 a4.More y60) y186 y194), (S_t35.mk y210 ([(9 : UInt8)]) (S_api_Block.mk 0 true 0) y221 41)]) ∧ True),
    (fun L_ lab_ w_ v_ => v_ = .int .i64 (([(S_t35.mk a2 a3 (S_api_Block.mk a4.Num a4.More a4.Size) a5 a6), (S_t35.mk y148 ([x160]) (S_api_Block.mk y67 a4.More y60) y186 y194), (S_t35.mk y210 ([(9 : UInt8)]) (S_api_Block.mk 0 true 0) y221 41)]).length : Int) ∧ True),
    (fun L_ lab_ w_ v_ => v_ = .int .i64 0 ∧ True)], (fun L_ lab_ w_ => Cx [] w lab w_ lab_ ∧ SL Rep.u8 lab_ w_ oa7 c8 a3 ∧ SL Rep.u8 lab_ w_ oa10 c11 a5 ∧ Box lab_ w_ 21 g13 26 [.int .i64 a4.Num, .bool a4.More, .int .i64 a4.Size] ∧ Box lab_ w_ 28 g83 26 [.int .i64 y67, .bool a4.More, .int .i64 y60] ∧ SL R_api_Partial lab_ w_ oa127 c128 x122 ∧ SL (Rep.sl R_api_Partial) lab_ w_ oa104 c105 ([a0, y51.1, x96]) ∧ True), ?_, ⟨cx, s9, s12, b17, b88, s129, s107, trivial⟩, ?_, ?_⟩
              · exact ⟨by rintro i_ L_ lab_ w_ lab2_ w2_ v_ hne_ hd_ hk_ hp_ ⟨hv_, _⟩; exact ⟨hv_, trivial⟩, by rintro i_ L_ lab_ w_ lab2_ w2_ v_ hne_ hd_ hk_ hp_ ⟨hv_, _⟩; exact ⟨hv_, trivial⟩, by rintro i_ L_ lab_ w_ lab2_ w2_ v_ hne_ hd_ hk_ hp_ ⟨hv_, _⟩; exact ⟨hv_, trivial⟩, by rintro i_ L_ lab_ w_ lab2_ w2_ v_ hne_ hd_ hk_ hp_ ⟨hv_, _⟩; exact ⟨hv_, trivial⟩, by rintro i_ L_ lab_ w_ lab2_ w2_ v_ hne_ hd_ hk_ hp_ ⟨hv_, _⟩; exact ⟨hv_, trivial⟩, by rintro i_ L_ lab_ w_ lab2_ w2_ v_ hne_ hd_ hk_ hp_ ⟨hv_, _⟩; exact ⟨hv_, trivial⟩, by rintro i_ L_ lab_ w_ lab2_ w2_ v_ hne_ hd_ hk_ hp_ ⟨hv_, _⟩; exact ⟨hv_, trivial⟩, by rintro i_ L_ lab_ w_ lab2_ w2_ v_ hne_ hd_ hk_ hp_ ⟨hv_, _⟩; exact ⟨hv_, trivial⟩, by rintro i_ L_ lab_ w_ lab2_ w2_ v_ hne_ hd_ hk_ hp_ ⟨hv_, _⟩; exact ⟨hv_, trivial⟩, by rintro i_ L_ lab_ w_ lab2_ w2_ v_ hne_ hd_ hk_ hp_ ⟨hv_, _⟩; exact ⟨hv_, trivial⟩, by rintro i_ L_ lab_ w_ lab2_ w2_ v_ hne_ hd_ hk_ hp_ ⟨hv_, _⟩; exact ⟨hv_, trivial⟩, by rintro i_ L_ lab_ w_ lab2_ w2_ v_ hne_ hd_ hk_ hp_ ⟨hv_, _⟩; exact ⟨hv_, trivial⟩, by rintro i_ L_ lab_ w_ lab2_ w2_ v_ hne_ hd_ hk_ hp_ ⟨oa162, c163, hv_, s165, _⟩; exact ⟨oa162, c163, hv_, (s165.keep hp_), trivial⟩, by rintro i_ L_ lab_ w_ lab2_ w2_ v_ hne_ hd_ hk_ hp_ ⟨hv_, _⟩; exact ⟨hv_, trivial⟩, by rintro i_ L_ lab_ w_ lab2_ w2_ v_ hne_ hd_ hk_ hp_ ⟨hv_, _⟩; exact ⟨hv_, trivial⟩, by rintro i_ L_ lab_ w_ lab2_ w2_ v_ hne_ hd_ hk_ hp_ ⟨hv_, _⟩; exact ⟨hv_, trivial⟩, by rintro i_ L_ lab_ w_ lab2_ w2_ v_ hne_ hd_ hk_ hp_ ⟨hv_, _⟩; exact ⟨hv_, trivial⟩, by rintro i_ L_ lab_ w_ lab2_ w2_ v_ hne_ hd_ hk_ hp_ ⟨hv_, _⟩; exact ⟨hv_, trivial⟩, by rintro i_ L_ lab_ w_ lab2_ w2_ v_ hne_ hd_ hk_ hp_ ⟨hv_, _⟩; exact ⟨hv_, trivial⟩, by rintro i_ L_ lab_ w_ lab2_ w2_ v_ hne_ hd_ hk_ hp_ ⟨hv_, _⟩; exact ⟨hv_, trivial⟩, by rintro i_ L_ lab_ w_ lab2_ w2_ v_ hne_ hd_ hk_ hp_ ⟨hv_, _⟩; exact ⟨hv_, trivial⟩, by rintro i_ L_ lab_ w_ lab2_ w2_ v_ hne_ hd_ hk_ hp_ ⟨hv_, _⟩; exact ⟨hv_, trivial⟩, by rintro i_ L_ lab_ w_ lab2_ w2_ v_ hne_ hd_ hk_ hp_ ⟨hv_, _⟩; exact ⟨hv_, trivial⟩, by rintro i_ L_ lab_ w_ lab2_ w2_ v_ hne_ hd_ hk_ hp_ ⟨oa190, c191, hv_, s192, _⟩; exact ⟨oa190, c191, hv_, (s192.keep hp_), trivial⟩, by rintro i_ L_ lab_ w_ lab2_ w2_ v_ hne_ hd_ hk_ hp_ ⟨hv_, _⟩; exact ⟨hv_, trivial⟩, by rintro i_ L_ lab_ w_ lab2_ w2_ v_ hne_ hd_ hk_ hp_ ⟨hv_, _⟩; exact ⟨hv_, trivial⟩, by rintro i_ L_ lab_ w_ lab2_ w2_ v_ hne_ hd_ hk_ hp_ ⟨oa199, c200, oa204, c205, hv_, s201, s206, _⟩; exact ⟨oa199, c200, oa204, c205, hv_, (s201.keep hp_), (s206.keep hp_), trivial⟩, by rintro i_ L_ lab_ w_ lab2_ w2_ v_ hne_ hd_ hk_ hp_ ⟨hv_, _⟩; exact ⟨hv_, trivial⟩, by rintro i_ L_ lab_ w_ lab2_ w2_ v_ hne_ hd_ hk_ hp_ ⟨hv_, _⟩; exact ⟨hv_, trivial⟩, by rintro i_ L_ lab_ w_ lab2_ w2_ v_ hne_ hd_ hk_ hp_ ⟨oa214, c215, hv_, s217, _⟩; exact ⟨oa214, c215, hv_, (s217.keep hp_), trivial⟩, by rintro i_ L_ lab_ w_ lab2_ w2_ v_ hne_ hd_ hk_ hp_ ⟨hv_, _⟩; exact ⟨hv_, trivial⟩, by rintro i_ L_ lab_ w_ lab2_ w2_ v_ hne_ hd_ hk_ hp_ ⟨hv_, _⟩; exact ⟨hv_, trivial⟩, by rintro i_ L_ lab_ w_ lab2_ w2_ v_ hne_ hd_ hk_ hp_ ⟨oa225, c226, hv_, s227, _⟩; exact ⟨oa225, c226, hv_, (s227.keep hp_), trivial⟩, by rintro i_ L_ lab_ w_ lab2_ w2_ v_ hne_ hd_ hk_ hp_ ⟨oa229, c230, oa234, c235, hv_, s231, s236, _⟩; exact ⟨oa229, c230, oa234, c235, hv_, (s231.keep hp_), (s236.keep hp_), trivial⟩, by rintro i_ L_ lab_ w_ lab2_ w2_ v_ hne_ hd_ hk_ hp_ ⟨oa253, c254, hv_, s256, _⟩; exact ⟨oa253, c254, hv_, (s256.keep hp_), trivial⟩, by rintro i_ L_ lab_ w_ lab2_ w2_ v_ hne_ hd_ hk_ hp_ ⟨hv_, _⟩; exact ⟨hv_, trivial⟩, by rintro i_ L_ lab_ w_ lab2_ w2_ v_ hne_ hd_ hk_ hp_ ⟨hv_, _⟩; exact ⟨hv_, trivial⟩, trivial⟩
              · refine (ob_succ (ob_succ (ob_succ (ob_succ (ob_succ (ob_succ (ob_succ (ob_succ (ob_succ (ob_succ (ob_succ (ob_succ (ob_succ (ob_succ (ob_succ (ob_succ (ob_succ (ob_succ (ob_succ (ob_succ (ob_succ (ob_succ (ob_succ (ob_succ (ob_succ (ob_succ (ob_succ (ob_succ (ob_succ (ob_succ (ob_succ (ob_succ (ob_succ (ob_succ (ob_succ (ob_succ (ob_succ ob_nil ?_) ?_) ?_) ?_) ?_) ?_) ?_) ?_) ?_) ?_) ?_) ?_) ?_) ?_) ?_) ?_) ?_) ?_) ?_) ?_) ?_) ?_) ?_) ?_) ?_) ?_) ?_) ?_) ?_) ?_) ?_) ?_) ?_) ?_) ?_) ?_) ?_)
                · exact ob_moveb (v := .int .i64 a2) rfl (fun _ h_ => h_ _ _ rfl) rfl (fun _ _ _ => ⟨rfl, trivial⟩) (fun _ _ _ h_ => h_)
                · exact ob_moveb (v := .slice oa7 a3.length c8) rfl (fun _ h_ => h_ _ _ rfl) rfl (fun _ _ _ => ⟨rfl, trivial⟩) (fun _ _ _ h_ => h_)
                · intro o_ L_ F_ lab_ w_ ho_ hL_ hw_ hcl_ hb_ hr_ hq_; obtain rfl := Option.some.inj (ho_ : some _ = some o_); obtain ⟨cx, s9, s12, b17, b88, s129, s107, _⟩ := hq_
                  have hl11 := hb_ 11 _ rfl
                  refine LW.loadBn [.int .i64 a4.Num, .bool a4.More, .int .i64 a4.Size] b17 kAgg_26 rfl rfl wn rfl hl11 ?_
                  refine LW.nil ?_; intro a_ ha_
                  exact ⟨rfl, _, _, ha_, ⟨rfl, trivial⟩, Ke.refl, cx, s9, s12, b17, b88, s129, s107, trivial⟩
                · exact ob_moveb (v := .slice oa10 a5.length c11) rfl (fun _ h_ => h_ _ _ rfl) rfl (fun _ _ _ => ⟨rfl, trivial⟩) (fun _ _ _ h_ => h_)
                · exact ob_moveb (v := .int .i64 a6) rfl (fun _ h_ => h_ _ _ rfl) rfl (fun _ _ _ => ⟨rfl, trivial⟩) (fun _ _ _ h_ => h_)
                · intro o_ L_ F_ lab_ w_ ho_ hL_ hw_ hcl_ hb_ hr_ hq_; obtain rfl := Option.some.inj (ho_ : some _ = some o_); obtain ⟨cx, s9, s12, b17, b88, s129, s107, _⟩ := hq_
                  obtain ⟨q142, hl78, rfl, _⟩ := hr_ 0 (by decide) (hw_ 0 (by kernel_rfl))
                  replace hl78 : Gk.look F_ 78 = some (.int .i64 a2) := hl78
                  obtain ⟨q143, hl79, rfl, _⟩ := hr_ 1 (by decide) (hw_ 1 (by kernel_rfl))
                  replace hl79 : Gk.look F_ 79 = some (.slice oa7 a3.length c8) := hl79
                  obtain ⟨q144, hl80, rfl, _⟩ := hr_ 2 (by decide) (hw_ 2 (by kernel_rfl))
                  replace hl80 : Gk.look F_ 80 = some (.agg ([.int .i64 a4.Num, .bool a4.More, .int .i64 a4.Size] : List Value).toArray) := hl80
                  obtain ⟨q145, hl81, rfl, _⟩ := hr_ 3 (by decide) (hw_ 3 (by kernel_rfl))
                  replace hl81 : Gk.look F_ 81 = some (.slice oa10 a5.length c11) := hl81
                  obtain ⟨q146, hl82, rfl, _⟩ := hr_ 4 (by decide) (hw_ 4 (by kernel_rfl))
                  replace hl82 : Gk.look F_ 82 = some (.int .i64 a6) := hl82
                  refine LW.build (vs := [(0, .int .i64 a2), (1, .slice oa7 a3.length c8), (2, .agg ([.int .i64 a4.Num, .bool a4.More, .int .i64 a4.Size] : List Value).toArray), (3, .slice oa10 a5.length c11), (4, .int .i64 a6)]) (cs := [.int .i64 a2, .slice oa7 a3.length c8, .int .i64 a4.Num, .bool a4.More, .int .i64 a4.Size, .slice oa10 a5.length c11, .int .i64 a6]) (mp_cons hl78 (mp_cons hl79 (mp_cons hl80 (mp_cons hl81 (mp_cons hl82 mp_nil))))) ((kBuilt_35 _).trans (by kernel_rfl)) wn rfl ?_
                  refine LW.nil ?_; intro a_ ha_
                  exact ⟨rfl, _, _, ha_, ⟨rfl, trivial⟩, Ke.refl, cx, s9, s12, b17, b88, s129, s107, trivial⟩
                · exact ob_moveb (v := .int .i64 a2) rfl (fun _ h_ => h_ _ _ rfl) rfl (fun _ _ _ => ⟨rfl, trivial⟩) (fun _ _ _ h_ => h_)
                · intro o_ L_ F_ lab_ w_ ho_ hL_ hw_ hcl_ hb_ hr_ hq_; obtain rfl := Option.some.inj (ho_ : some _ = some o_); obtain ⟨cx, s9, s12, b17, b88, s129, s107, _⟩ := hq_
                  obtain ⟨q147, hl84, rfl, _⟩ := hr_ 6 (by decide) (hw_ 6 (by kernel_rfl))
                  replace hl84 : Gk.look F_ 84 = some (.int .i64 a2) := hl84
                  refine LW.call kFn_13 (c_coresecmake_Mod hx_y148 cx.top) wn rfl (evs_cons hl84 (evs_cons rfl evs_nil)) ?_
                  rintro _ w149 ⟨rfl, e150, _⟩; refine ⟨_, rfl, ?_⟩
                  replace cx := cx.step e150 rfl
                  replace s9 := s9.step e150
                  replace s12 := s12.step e150
                  replace b17 := b17.step e150 rfl
                  replace b88 := b88.step e150 rfl
                  replace s129 := s129.step e150
                  replace s107 := s107.step e150
                  refine LW.nil ?_; intro a_ ha_
                  exact ⟨rfl, _, _, ha_, ⟨rfl, trivial⟩, e150.ke0, cx, s9, s12, b17, b88, s129, s107, trivial⟩
                · exact ob_moveb (v := .int .i64 a2) rfl (fun _ h_ => h_ _ _ rfl) rfl (fun _ _ _ => ⟨rfl, trivial⟩) (fun _ _ _ h_ => h_)
                · intro o_ L_ F_ lab_ w_ ho_ hL_ hw_ hcl_ hb_ hr_ hq_; obtain rfl := Option.some.inj (ho_ : some _ = some o_); obtain ⟨cx, s9, s12, b17, b88, s129, s107, _⟩ := hq_
                  obtain ⟨q152, hl86, rfl, _⟩ := hr_ 8 (by decide) (hw_ 8 (by kernel_rfl))
                  replace hl86 : Gk.look F_ 86 = some (.int .i64 a2) := hl86
                  refine LW.quo (bnd_ret hx_x153) wn rfl hl86 rfl ?_; intro x_ hx_; cases hx_
                  refine LW.nil ?_; intro a_ ha_
                  exact ⟨rfl, _, _, ha_, ⟨rfl, trivial⟩, Ke.refl, cx, s9, s12, b17, b88, s129, s107, trivial⟩
                · intro o_ L_ F_ lab_ w_ ho_ hL_ hw_ hcl_ hb_ hr_ hq_; obtain rfl := Option.some.inj (ho_ : some _ = some o_); obtain ⟨cx, s9, s12, b17, b88, s129, s107, _⟩ := hq_
                  obtain ⟨q154, hl87, rfl, _⟩ := hr_ 9 (by decide) (hw_ 9 (by kernel_rfl))
                  replace hl87 : Gk.look F_ 87 = some (.int .i64 x153) := hl87
                  refine LW.call kFn_13 (c_coresecmake_Mod hx_y155 cx.top) wn rfl (evs_cons hl87 (evs_cons rfl evs_nil)) ?_
                  rintro _ w156 ⟨rfl, e157, _⟩; refine ⟨_, rfl, ?_⟩
                  replace cx := cx.step e157 rfl
                  replace s9 := s9.step e157
                  replace s12 := s12.step e157
                  replace b17 := b17.step e157 rfl
                  replace b88 := b88.step e157 rfl
                  replace s129 := s129.step e157
                  replace s107 := s107.step e157
                  refine LW.nil ?_; intro a_ ha_
                  exact ⟨rfl, _, _, ha_, ⟨rfl, trivial⟩, e157.ke0, cx, s9, s12, b17, b88, s129, s107, trivial⟩
                · intro o_ L_ F_ lab_ w_ ho_ hL_ hw_ hcl_ hb_ hr_ hq_; obtain rfl := Option.some.inj (ho_ : some _ = some o_); obtain ⟨cx, s9, s12, b17, b88, s129, s107, _⟩ := hq_
                  obtain ⟨q159, hl88, rfl, _⟩ := hr_ 10 (by decide) (hw_ 10 (by kernel_rfl))
                  replace hl88 : Gk.look F_ 88 = some (.int .i64 y155) := hl88
                  refine LW.cvt_u8 (letm_eq hx_x160) kIs_3 kInt_5 wn rfl hl88 ?_; intro x_ hx_; cases hx_
                  refine LW.nil ?_; intro a_ ha_
                  exact ⟨rfl, _, _, ha_, ⟨rfl, trivial⟩, Ke.refl, cx, s9, s12, b17, b88, s129, s107, trivial⟩
                · intro o_ L_ F_ lab_ w_ ho_ hL_ hw_ hcl_ hb_ hr_ hq_; obtain rfl := Option.some.inj (ho_ : some _ = some o_); obtain ⟨cx, s9, s12, b17, b88, s129, s107, _⟩ := hq_
                  obtain ⟨q161, hl89, rfl, _⟩ := hr_ 11 (by decide) (hw_ 11 (by kernel_rfl))
                  replace hl89 : Gk.look F_ 89 = some (.int .u8 (x160.toNat : Int)) := hl89
                  refine LW.buildSlice (ρ := Rep.u8) (vs := [(0, .int .u8 (x160.toNat : Int))]) (css := [[.int .u8 (x160.toNat : Int)]]) (xs := [x160]) (mp_cons hl89 mp_nil) kSl_24 kZero_5 (by kernel_rfl) rfl rfl ⟨rfl, trivial⟩ cx.top wn rfl ?_
                  intro oa162 c163 lab166 w167 e164 s165
                  replace cx := cx.step e164 rfl
                  replace s9 := s9.step e164
                  replace s12 := s12.step e164
                  replace b17 := b17.step e164 rfl
                  replace b88 := b88.step e164 rfl
                  replace s129 := s129.step e164
                  replace s107 := s107.step e164
                  refine LW.nil ?_; intro a_ ha_
                  exact ⟨rfl, _, _, ha_, ⟨oa162, c163, rfl, s165, trivial⟩, e164.ke0, cx, s9, s12, b17, b88, s129, s107, trivial⟩
                · intro o_ L_ F_ lab_ w_ ho_ hL_ hw_ hcl_ hb_ hr_ hq_; obtain rfl := Option.some.inj (ho_ : some _ = some o_); obtain ⟨cx, s9, s12, b17, b88, s129, s107, _⟩ := hq_
                  have hl18 := hb_ 18 _ rfl
                  refine LW.loadBn [.int .i64 y67, .bool a4.More, .int .i64 y60] b88 kAgg_26 rfl rfl wn rfl hl18 ?_
                  refine LW.nil ?_; intro a_ ha_
                  exact ⟨rfl, _, _, ha_, ⟨rfl, trivial⟩, Ke.refl, cx, s9, s12, b17, b88, s129, s107, trivial⟩
                · exact ob_moveb (v := .int .i64 a6) rfl (fun _ h_ => h_ _ _ rfl) rfl (fun _ _ _ => ⟨rfl, trivial⟩) (fun _ _ _ h_ => h_)
                · exact ob_moveb (v := .int .i64 y60) rfl (fun _ h_ => h_ _ _ rfl) rfl (fun _ _ _ => ⟨rfl, trivial⟩) (fun _ _ _ h_ => h_)
                · intro o_ L_ F_ lab_ w_ ho_ hL_ hw_ hcl_ hb_ hr_ hq_; obtain rfl := Option.some.inj (ho_ : some _ = some o_); obtain ⟨cx, s9, s12, b17, b88, s129, s107, _⟩ := hq_
                  obtain ⟨q168, hl93, rfl, _⟩ := hr_ 15 (by decide) (hw_ 15 (by kernel_rfl))
                  replace hl93 : Gk.look F_ 93 = some (.int .i64 y60) := hl93
                  refine LW.cvt_u64 (letm_eq hx_x169) kIs_3 kInt_37 wn rfl hl93 ?_; intro x_ hx_; cases hx_
                  refine LW.nil ?_; intro a_ ha_
                  exact ⟨rfl, _, _, ha_, ⟨rfl, trivial⟩, Ke.refl, cx, s9, s12, b17, b88, s129, s107, trivial⟩
                · intro o_ L_ F_ lab_ w_ ho_ hL_ hw_ hcl_ hb_ hr_ hq_; obtain rfl := Option.some.inj (ho_ : some _ = some o_); obtain ⟨cx, s9, s12, b17, b88, s129, s107, _⟩ := hq_
                  obtain ⟨q170, hl94, rfl, _⟩ := hr_ 16 (by decide) (hw_ 16 (by kernel_rfl))
                  replace hl94 : Gk.look F_ 94 = some (.int .u64 (x169.toNat : Int)) := hl94
                  refine LW.shl (bnd_ret hx_x171) wn rfl rfl hl94 ?_; intro x_ hx_; cases hx_
                  refine LW.nil ?_; intro a_ ha_
                  exact ⟨rfl, _, _, ha_, ⟨rfl, trivial⟩, Ke.refl, cx, s9, s12, b17, b88, s129, s107, trivial⟩
                · exact ob_moveb (v := .int .i64 a6) rfl (fun _ h_ => h_ _ _ rfl) rfl (fun _ _ _ => ⟨rfl, trivial⟩) (fun _ _ _ h_ => h_)
                · intro o_ L_ F_ lab_ w_ ho_ hL_ hw_ hcl_ hb_ hr_ hq_; obtain rfl := Option.some.inj (ho_ : some _ = some o_); obtain ⟨cx, s9, s12, b17, b88, s129, s107, _⟩ := hq_
                  obtain ⟨q172, hl96, rfl, _⟩ := hr_ 18 (by decide) (hw_ 18 (by kernel_rfl))
                  replace hl96 : Gk.look F_ 96 = some (.int .i64 a6) := hl96
                  refine LW.quo (bnd_ret hx_x173) wn rfl hl96 rfl ?_; intro x_ hx_; cases hx_
                  refine LW.nil ?_; intro a_ ha_
                  exact ⟨rfl, _, _, ha_, ⟨rfl, trivial⟩, Ke.refl, cx, s9, s12, b17, b88, s129, s107, trivial⟩
                · intro o_ L_ F_ lab_ w_ ho_ hL_ hw_ hcl_ hb_ hr_ hq_; obtain rfl := Option.some.inj (ho_ : some _ = some o_); obtain ⟨cx, s9, s12, b17, b88, s129, s107, _⟩ := hq_
                  obtain ⟨q174, hl97, rfl, _⟩ := hr_ 19 (by decide) (hw_ 19 (by kernel_rfl))
                  replace hl97 : Gk.look F_ 97 = some (.int .i64 x173) := hl97
                  refine LW.call kFn_13 (c_coresecmake_Mod hx_y175 cx.top) wn rfl (evs_cons hl97 (evs_cons rfl evs_nil)) ?_
                  rintro _ w176 ⟨rfl, e177, _⟩; refine ⟨_, rfl, ?_⟩
                  replace cx := cx.step e177 rfl
                  replace s9 := s9.step e177
                  replace s12 := s12.step e177
                  replace b17 := b17.step e177 rfl
                  replace b88 := b88.step e177 rfl
                  replace s129 := s129.step e177
                  replace s107 := s107.step e177
                  refine LW.nil ?_; intro a_ ha_
                  exact ⟨rfl, _, _, ha_, ⟨rfl, trivial⟩, e177.ke0, cx, s9, s12, b17, b88, s129, s107, trivial⟩
                · intro o_ L_ F_ lab_ w_ ho_ hL_ hw_ hcl_ hb_ hr_ hq_; obtain rfl := Option.some.inj (ho_ : some _ = some o_); obtain ⟨cx, s9, s12, b17, b88, s129, s107, _⟩ := hq_
                  obtain ⟨q179, hl98, rfl, _⟩ := hr_ 20 (by decide) (hw_ 20 (by kernel_rfl))
                  replace hl98 : Gk.look F_ 98 = some (.int .i64 y175) := hl98
                  refine LW.quo (bnd_ret hx_x180) wn rfl hl98 rfl ?_; intro x_ hx_; cases hx_
                  refine LW.nil ?_; intro a_ ha_
                  exact ⟨rfl, _, _, ha_, ⟨rfl, trivial⟩, Ke.refl, cx, s9, s12, b17, b88, s129, s107, trivial⟩
                · intro o_ L_ F_ lab_ w_ ho_ hL_ hw_ hcl_ hb_ hr_ hq_; obtain rfl := Option.some.inj (ho_ : some _ = some o_); obtain ⟨cx, s9, s12, b17, b88, s129, s107, _⟩ := hq_
                  obtain ⟨q181, hl95, rfl, _⟩ := hr_ 17 (by decide) (hw_ 17 (by kernel_rfl))
                  replace hl95 : Gk.look F_ 95 = some (.int .i64 x171) := hl95
                  obtain ⟨q182, hl99, rfl, _⟩ := hr_ 21 (by decide) (hw_ 21 (by kernel_rfl))
                  replace hl99 : Gk.look F_ 99 = some (.int .i64 x180) := hl99
                  refine LW.sub' (letm_eq hx_x183) wn rfl hl95 hl99 ?_; intro x_ hx_; cases hx_
                  refine LW.nil ?_; intro a_ ha_
                  exact ⟨rfl, _, _, ha_, ⟨rfl, trivial⟩, Ke.refl, cx, s9, s12, b17, b88, s129, s107, trivial⟩
                · intro o_ L_ F_ lab_ w_ ho_ hL_ hw_ hcl_ hb_ hr_ hq_; obtain rfl := Option.some.inj (ho_ : some _ = some o_); obtain ⟨cx, s9, s12, b17, b88, s129, s107, _⟩ := hq_
                  obtain ⟨q184, hl92, rfl, _⟩ := hr_ 14 (by decide) (hw_ 14 (by kernel_rfl))
                  replace hl92 : Gk.look F_ 92 = some (.int .i64 a6) := hl92
                  obtain ⟨q185, hl100, rfl, _⟩ := hr_ 22 (by decide) (hw_ 22 (by kernel_rfl))
                  replace hl100 : Gk.look F_ 100 = some (.int .i64 x183) := hl100
                  refine LW.call kFn_16 (c_coresecmake_Some hx_y186 cx.top) wn rfl (evs_cons hl92 (evs_cons hl100 evs_nil)) ?_
                  rintro _ w187 ⟨oa190, c191, rfl, e188, s192, _⟩; refine ⟨_, rfl, ?_⟩
                  replace cx := cx.step e188 rfl
                  replace s9 := s9.step e188
                  replace s12 := s12.step e188
                  replace b17 := b17.step e188 rfl
                  replace b88 := b88.step e188 rfl
                  replace s129 := s129.step e188
                  replace s107 := s107.step e188
                  refine LW.nil ?_; intro a_ ha_
                  exact ⟨rfl, _, _, ha_, ⟨oa190, c191, rfl, s192, trivial⟩, e188.ke0, cx, s9, s12, b17, b88, s129, s107, trivial⟩
                · exact ob_moveb (v := .int .i64 a6) rfl (fun _ h_ => h_ _ _ rfl) rfl (fun _ _ _ => ⟨rfl, trivial⟩) (fun _ _ _ h_ => h_)
                · intro o_ L_ F_ lab_ w_ ho_ hL_ hw_ hcl_ hb_ hr_ hq_; obtain rfl := Option.some.inj (ho_ : some _ = some o_); obtain ⟨cx, s9, s12, b17, b88, s129, s107, _⟩ := hq_
                  obtain ⟨q193, hl102, rfl, _⟩ := hr_ 24 (by decide) (hw_ 24 (by kernel_rfl))
                  replace hl102 : Gk.look F_ 102 = some (.int .i64 a6) := hl102
                  refine LW.call kFn_13 (c_coresecmake_Mod hx_y194 cx.top) wn rfl (evs_cons hl102 (evs_cons rfl evs_nil)) ?_
                  rintro _ w195 ⟨rfl, e196, _⟩; refine ⟨_, rfl, ?_⟩
                  replace cx := cx.step e196 rfl
                  replace s9 := s9.step e196
                  replace s12 := s12.step e196
                  replace b17 := b17.step e196 rfl
                  replace b88 := b88.step e196 rfl
                  replace s129 := s129.step e196
                  replace s107 := s107.step e196
                  refine LW.nil ?_; intro a_ ha_
                  exact ⟨rfl, _, _, ha_, ⟨rfl, trivial⟩, e196.ke0, cx, s9, s12, b17, b88, s129, s107, trivial⟩
                · intro o_ L_ F_ lab_ w_ ho_ hL_ hw_ hcl_ hb_ hr_ hq_; obtain rfl := Option.some.inj (ho_ : some _ = some o_); obtain ⟨cx, s9, s12, b17, b88, s129, s107, _⟩ := hq_
                  obtain ⟨q198, hl85, rfl, _⟩ := hr_ 7 (by decide) (hw_ 7 (by kernel_rfl))
                  replace hl85 : Gk.look F_ 85 = some (.int .i64 y148) := hl85
                  obtain ⟨q202, hl90, oa199, c200, rfl, s201, _⟩ := hr_ 12 (by decide) (hw_ 12 (by kernel_rfl))
                  replace hl90 : Gk.look F_ 90 = some (.slice oa199 ([x160]).length c200) := hl90
                  obtain ⟨q203, hl91, rfl, _⟩ := hr_ 13 (by decide) (hw_ 13 (by kernel_rfl))
                  replace hl91 : Gk.look F_ 91 = some (.agg ([.int .i64 y67, .bool a4.More, .int .i64 y60] : List Value).toArray) := hl91
                  obtain ⟨q207, hl101, oa204, c205, rfl, s206, _⟩ := hr_ 23 (by decide) (hw_ 23 (by kernel_rfl))
                  replace hl101 : Gk.look F_ 101 = some (.slice oa204 y186.length c205) := hl101
                  obtain ⟨q208, hl103, rfl, _⟩ := hr_ 25 (by decide) (hw_ 25 (by kernel_rfl))
                  replace hl103 : Gk.look F_ 103 = some (.int .i64 y194) := hl103
                  refine LW.build (vs := [(0, .int .i64 y148), (1, .slice oa199 ([x160]).length c200), (2, .agg ([.int .i64 y67, .bool a4.More, .int .i64 y60] : List Value).toArray), (3, .slice oa204 y186.length c205), (4, .int .i64 y194)]) (cs := [.int .i64 y148, .slice oa199 ([x160]).length c200, .int .i64 y67, .bool a4.More, .int .i64 y60, .slice oa204 y186.length c205, .int .i64 y194]) (mp_cons hl85 (mp_cons hl90 (mp_cons hl91 (mp_cons hl101 (mp_cons hl103 mp_nil))))) ((kBuilt_35 _).trans (by kernel_rfl)) wn rfl ?_
                  refine LW.nil ?_; intro a_ ha_
                  exact ⟨rfl, _, _, ha_, ⟨oa199, c200, oa204, c205, rfl, s201, s206, trivial⟩, Ke.refl, cx, s9, s12, b17, b88, s129, s107, trivial⟩
                · exact ob_moveb (v := .int .i64 a2) rfl (fun _ h_ => h_ _ _ rfl) rfl (fun _ _ _ => ⟨rfl, trivial⟩) (fun _ _ _ h_ => h_)
                · intro o_ L_ F_ lab_ w_ ho_ hL_ hw_ hcl_ hb_ hr_ hq_; obtain rfl := Option.some.inj (ho_ : some _ = some o_); obtain ⟨cx, s9, s12, b17, b88, s129, s107, _⟩ := hq_
                  obtain ⟨q209, hl105, rfl, _⟩ := hr_ 27 (by decide) (hw_ 27 (by kernel_rfl))
                  replace hl105 : Gk.look F_ 105 = some (.int .i64 a2) := hl105
                  refine LW.call kFn_13 (c_coresecmake_Mod hx_y210 cx.top) wn rfl (evs_cons hl105 (evs_cons rfl evs_nil)) ?_
                  rintro _ w211 ⟨rfl, e212, _⟩; refine ⟨_, rfl, ?_⟩
                  replace cx := cx.step e212 rfl
                  replace s9 := s9.step e212
                  replace s12 := s12.step e212
                  replace b17 := b17.step e212 rfl
                  replace b88 := b88.step e212 rfl
                  replace s129 := s129.step e212
                  replace s107 := s107.step e212
                  refine LW.nil ?_; intro a_ ha_
                  exact ⟨rfl, _, _, ha_, ⟨rfl, trivial⟩, e212.ke0, cx, s9, s12, b17, b88, s129, s107, trivial⟩
                · intro o_ L_ F_ lab_ w_ ho_ hL_ hw_ hcl_ hb_ hr_ hq_; obtain rfl := Option.some.inj (ho_ : some _ = some o_); obtain ⟨cx, s9, s12, b17, b88, s129, s107, _⟩ := hq_
                  refine LW.buildSlice (ρ := Rep.u8) (vs := [(0, .int .u8 ((9 : UInt8).toNat : Int))]) (css := [[.int .u8 ((9 : UInt8).toNat : Int)]]) (xs := [(9 : UInt8)]) rfl kSl_24 kZero_5 (by kernel_rfl) rfl rfl ⟨rfl, trivial⟩ cx.top wn rfl ?_
                  intro oa214 c215 lab218 w219 e216 s217
                  replace cx := cx.step e216 rfl
                  replace s9 := s9.step e216
                  replace s12 := s12.step e216
                  replace b17 := b17.step e216 rfl
                  replace b88 := b88.step e216 rfl
                  replace s129 := s129.step e216
                  replace s107 := s107.step e216
                  refine LW.nil ?_; intro a_ ha_
                  exact ⟨rfl, _, _, ha_, ⟨oa214, c215, rfl, s217, trivial⟩, e216.ke0, cx, s9, s12, b17, b88, s129, s107, trivial⟩
                · intro o_ L_ F_ lab_ w_ ho_ hL_ hw_ hcl_ hb_ hr_ hq_; obtain rfl := Option.some.inj (ho_ : some _ = some o_); obtain ⟨cx, s9, s12, b17, b88, s129, s107, _⟩ := hq_
                  refine LW.build (vs := [(1, .bool true)]) (cs := [.int .i64 0, .bool true, .int .i64 0]) rfl ((kBuilt_26 _).trans rfl) wn rfl ?_
                  refine LW.nil ?_; intro a_ ha_
                  exact ⟨rfl, _, _, ha_, ⟨rfl, trivial⟩, Ke.refl, cx, s9, s12, b17, b88, s129, s107, trivial⟩
                · exact ob_moveb (v := .int .i64 a6) rfl (fun _ h_ => h_ _ _ rfl) rfl (fun _ _ _ => ⟨rfl, trivial⟩) (fun _ _ _ h_ => h_)
                · intro o_ L_ F_ lab_ w_ ho_ hL_ hw_ hcl_ hb_ hr_ hq_; obtain rfl := Option.some.inj (ho_ : some _ = some o_); obtain ⟨cx, s9, s12, b17, b88, s129, s107, _⟩ := hq_
                  obtain ⟨q220, hl109, rfl, _⟩ := hr_ 31 (by decide) (hw_ 31 (by kernel_rfl))
                  replace hl109 : Gk.look F_ 109 = some (.int .i64 a6) := hl109
                  refine LW.call kFn_16 (c_coresecmake_Some hx_y221 cx.top) wn rfl (evs_cons hl109 (evs_cons rfl evs_nil)) ?_
                  rintro _ w222 ⟨oa225, c226, rfl, e223, s227, _⟩; refine ⟨_, rfl, ?_⟩
                  replace cx := cx.step e223 rfl
                  replace s9 := s9.step e223
                  replace s12 := s12.step e223
                  replace b17 := b17.step e223 rfl
                  replace b88 := b88.step e223 rfl
                  replace s129 := s129.step e223
                  replace s107 := s107.step e223
                  refine LW.nil ?_; intro a_ ha_
                  exact ⟨rfl, _, _, ha_, ⟨oa225, c226, rfl, s227, trivial⟩, e223.ke0, cx, s9, s12, b17, b88, s129, s107, trivial⟩
                · intro o_ L_ F_ lab_ w_ ho_ hL_ hw_ hcl_ hb_ hr_ hq_; obtain rfl := Option.some.inj (ho_ : some _ = some o_); obtain ⟨cx, s9, s12, b17, b88, s129, s107, _⟩ := hq_
                  obtain ⟨q228, hl106, rfl, _⟩ := hr_ 28 (by decide) (hw_ 28 (by kernel_rfl))
                  replace hl106 : Gk.look F_ 106 = some (.int .i64 y210) := hl106
                  obtain ⟨q232, hl107, oa229, c230, rfl, s231, _⟩ := hr_ 29 (by decide) (hw_ 29 (by kernel_rfl))
                  replace hl107 : Gk.look F_ 107 = some (.slice oa229 ([(9 : UInt8)]).length c230) := hl107
                  obtain ⟨q233, hl108, rfl, _⟩ := hr_ 30 (by decide) (hw_ 30 (by kernel_rfl))
                  replace hl108 : Gk.look F_ 108 = some (.agg ([.int .i64 0, .bool true, .int .i64 0] : List Value).toArray) := hl108
                  obtain ⟨q237, hl110, oa234, c235, rfl, s236, _⟩ := hr_ 32 (by decide) (hw_ 32 (by kernel_rfl))
                  replace hl110 : Gk.look F_ 110 = some (.slice oa234 y221.length c235) := hl110
                  refine LW.build (vs := [(0, .int .i64 y210), (1, .slice oa229 ([(9 : UInt8)]).length c230), (2, .agg ([.int .i64 0, .bool true, .int .i64 0] : List Value).toArray), (3, .slice oa234 y221.length c235), (4, .int .i64 41)]) (cs := [.int .i64 y210, .slice oa229 ([(9 : UInt8)]).length c230, .int .i64 0, .bool true, .int .i64 0, .slice oa234 y221.length c235, .int .i64 41]) (mp_cons hl106 (mp_cons hl107 (mp_cons hl108 (mp_cons hl110 (mp_cons rfl mp_nil))))) ((kBuilt_35 _).trans (by kernel_rfl)) wn rfl ?_
                  refine LW.nil ?_; intro a_ ha_
                  exact ⟨rfl, _, _, ha_, ⟨oa229, c230, oa234, c235, rfl, s231, s236, trivial⟩, Ke.refl, cx, s9, s12, b17, b88, s129, s107, trivial⟩
                · intro o_ L_ F_ lab_ w_ ho_ hL_ hw_ hcl_ hb_ hr_ hq_; obtain rfl := Option.some.inj (ho_ : some _ = some o_); obtain ⟨cx, s9, s12, b17, b88, s129, s107, _⟩ := hq_
                  obtain ⟨q238, hl83, rfl, _⟩ := hr_ 5 (by decide) (hw_ 5 (by kernel_rfl))
                  replace hl83 : Gk.look F_ 83 = some (.agg ([.int .i64 a2, .slice oa7 a3.length c8, .int .i64 a4.Num, .bool a4.More, .int .i64 a4.Size, .slice oa10 a5.length c11, .int .i64 a6] : List Value).toArray) := hl83
                  obtain ⟨q245, hl104, oa239, c240, oa242, c243, rfl, s241, s244, _⟩ := hr_ 26 (by decide) (hw_ 26 (by kernel_rfl))
                  replace hl104 : Gk.look F_ 104 = some (.agg ([.int .i64 y148, .slice oa239 ([x160]).length c240, .int .i64 y67, .bool a4.More, .int .i64 y60, .slice oa242 y186.length c243, .int .i64 y194] : List Value).toArray) := hl104
                  obtain ⟨q252, hl111, oa246, c247, oa249, c250, rfl, s248, s251, _⟩ := hr_ 33 (by decide) (hw_ 33 (by kernel_rfl))
                  replace hl111 : Gk.look F_ 111 = some (.agg ([.int .i64 y210, .slice oa246 ([(9 : UInt8)]).length c247, .int .i64 0, .bool true, .int .i64 0, .slice oa249 y221.length c250, .int .i64 41] : List Value).toArray) := hl111
                  refine LW.buildSlice (ρ := R_t35) (vs := [(0, .agg ([.int .i64 a2, .slice oa7 a3.length c8, .int .i64 a4.Num, .bool a4.More, .int .i64 a4.Size, .slice oa10 a5.length c11, .int .i64 a6] : List Value).toArray), (1, .agg ([.int .i64 y148, .slice oa239 ([x160]).length c240, .int .i64 y67, .bool a4.More, .int .i64 y60, .slice oa242 y186.length c243, .int .i64 y194] : List Value).toArray), (2, .agg ([.int .i64 y210, .slice oa246 ([(9 : UInt8)]).length c247, .int .i64 0, .bool true, .int .i64 0, .slice oa249 y221.length c250, .int .i64 41] : List Value).toArray)]) (css := [[.int .i64 a2, .slice oa7 a3.length c8, .int .i64 a4.Num, .bool a4.More, .int .i64 a4.Size, .slice oa10 a5.length c11, .int .i64 a6], [.int .i64 y148, .slice oa239 ([x160]).length c240, .int .i64 y67, .bool a4.More, .int .i64 y60, .slice oa242 y186.length c243, .int .i64 y194], [.int .i64 y210, .slice oa246 ([(9 : UInt8)]).length c247, .int .i64 0, .bool true, .int .i64 0, .slice oa249 y221.length c250, .int .i64 41]]) (xs := [(S_t35.mk a2 a3 (S_api_Block.mk a4.Num a4.More a4.Size) a5 a6), (S_t35.mk y148 ([x160]) (S_api_Block.mk y67 a4.More y60) y186 y194), (S_t35.mk y210 ([(9 : UInt8)]) (S_api_Block.mk 0 true 0) y221 41)]) (mp_cons hl83 (mp_cons hl104 (mp_cons hl111 mp_nil))) kSl_38 kZero_35 (by kernel_rfl) rfl rfl ⟨⟨_, _, _, _, rfl, s9, s12, trivial⟩, ⟨_, _, _, _, rfl, s241, s244, trivial⟩, ⟨_, _, _, _, rfl, s248, s251, trivial⟩, trivial⟩ cx.top wn rfl ?_
                  intro oa253 c254 lab257 w258 e255 s256
                  replace cx := cx.step e255 rfl
                  replace s9 := s9.step e255
                  replace s12 := s12.step e255
                  replace b17 := b17.step e255 rfl
                  replace b88 := b88.step e255 rfl
                  replace s129 := s129.step e255
                  replace s107 := s107.step e255
                  replace s241 := s241.step e255
                  replace s244 := s244.step e255
                  replace s248 := s248.step e255
                  replace s251 := s251.step e255
                  refine LW.nil ?_; intro a_ ha_
                  exact ⟨rfl, _, _, ha_, ⟨oa253, c254, rfl, s256, trivial⟩, e255.ke0, cx, s9, s12, b17, b88, s129, s107, trivial⟩
                · intro o_ L_ F_ lab_ w_ ho_ hL_ hw_ hcl_ hb_ hr_ hq_; obtain rfl := Option.some.inj (ho_ : some _ = some o_); obtain ⟨cx, s9, s12, b17, b88, s129, s107, _⟩ := hq_
                  obtain ⟨q262, hl112, oa259, c260, rfl, s261, _⟩ := hr_ 34 (by decide) (hw_ 34 (by kernel_rfl))
                  replace hl112 : Gk.look F_ 112 = some (.slice oa259 ([(S_t35.mk a2 a3 (S_api_Block.mk a4.Num a4.More a4.Size) a5 a6), (S_t35.mk y148 ([x160]) (S_api_Block.mk y67 a4.More y60) y186 y194), (S_t35.mk y210 ([(9 : UInt8)]) (S_api_Block.mk 0 true 0) y221 41)]).length c260) := hl112
                  refine LW.len kUnd_38 wn rfl hl112 ?_
                  refine LW.nil ?_; intro a_ ha_
                  exact ⟨rfl, _, _, ha_, ⟨rfl, trivial⟩, Ke.refl, cx, s9, s12, b17, b88, s129, s107, trivial⟩
                · exact ob_moveb (v := .int .i64 0) rfl (fun _ _ => rfl) rfl (fun _ _ _ => ⟨rfl, trivial⟩) (fun _ _ _ h_ => h_)
              · intro F_ lab_ w_ hb_ hr_ hq_; obtain ⟨cx, s9, s12, b17, b88, s129, s107, _⟩ := hq_
                obtain ⟨q268, hl112, oa265, c266, rfl, s267, _⟩ := hr_ 34 (by decide)
                obtain ⟨q269, hl113, rfl, _⟩ := hr_ 35 (by decide)
                obtain ⟨q270, hl114, rfl, _⟩ := hr_ 36 (by decide)
                refine LW.sub (G := [(2, .int .i64 a2), (3, .slice oa7 a3.length c8), (5, .slice oa10 a5.length c11), (6, .int .i64 a6), (11, .pointer (some ⟨g13, 0, none⟩)), (17, .int .i64 y60), (18, .pointer (some ⟨g83, 0, none⟩)), (21, .slice oa127 x122.length c128), (67, .slice oa104 ([a0, y51.1, x96]).length c105), (68, .int .i64 (([a0, y51.1, x96]).length : Int)), (69, .int .i64 ((k120 : Nat) : Int)), (112, .slice oa265 ([(S_t35.mk a2 a3 (S_api_Block.mk a4.Num a4.More a4.Size) a5 a6), (S_t35.mk y148 ([x160]) (S_api_Block.mk y67 a4.More y60) y186 y194), (S_t35.mk y210 ([(9 : UInt8)]) (S_api_Block.mk 0 true 0) y221 41)]).length c266), (113, .int .i64 (([(S_t35.mk a2 a3 (S_api_Block.mk a4.Num a4.More a4.Size) a5 a6), (S_t35.mk y148 ([x160]) (S_api_Block.mk y67 a4.More y60) y186 y194), (S_t35.mk y210 ([(9 : UInt8)]) (S_api_Block.mk 0 true 0) y221 41)]).length : Int)), (114, .int .i64 0)]) ⟨hb_ 2 _ rfl, hb_ 3 _ rfl, hb_ 5 _ rfl, hb_ 6 _ rfl, hb_ 11 _ rfl, hb_ 17 _ rfl, hb_ 18 _ rfl, hb_ 21 _ rfl, hb_ 67 _ rfl, hb_ 68 _ rfl, hb_ 69 _ rfl, hl112, hl113, hl114, trivial⟩ ?_
                simp only [List.drop_succ_cons, List.drop_nil, List.drop_zero]
                refine LW.nil ?_
                refine EW.seq_n ?_
                obtain ⟨s272, h273, hs274, hs275⟩ := bndS_some hm; clear hm
                refine CW.join_any (fun F_ w276 => ∃ (y271 : Unit) (lab277 : Lab) , s272 = .inr y271 ∧ F_ = [(2, .int .i64 a2), (3, .slice oa7 a3.length c8), (5, .slice oa10 a5.length c11), (6, .int .i64 a6), (11, .pointer (some ⟨g13, 0, none⟩)), (17, .int .i64 y60), (18, .pointer (some ⟨g83, 0, none⟩)), (67, .slice oa104 ([a0, y51.1, x96]).length c105), (68, .int .i64 (([a0, y51.1, x96]).length : Int)), (69, .int .i64 ((k120 : Nat) : Int))] ∧ Cx [] w lab w276 lab277 ∧ SL Rep.u8 lab277 w276 oa7 c8 a3 ∧ SL Rep.u8 lab277 w276 oa10 c11 a5 ∧ Box lab277 w276 21 g13 26 [.int .i64 a4.Num, .bool a4.More, .int .i64 a4.Size] ∧ Box lab277 w276 28 g83 26 [.int .i64 y67, .bool a4.More, .int .i64 y60] ∧ SL (Rep.sl R_api_Partial) lab277 w276 oa104 c105 ([a0, y51.1, x96]) ∧ True) ?_ ?_
                · have hm := h273; clear h273
                  refine CW.block ?_
                  refine CW.sub (G := [(2, .int .i64 a2), (3, .slice oa7 a3.length c8), (5, .slice oa10 a5.length c11), (6, .int .i64 a6), (11, .pointer (some ⟨g13, 0, none⟩)), (17, .int .i64 y60), (18, .pointer (some ⟨g83, 0, none⟩)), (21, .slice oa127 x122.length c128), (67, .slice oa104 ([a0, y51.1, x96]).length c105), (68, .int .i64 (([a0, y51.1, x96]).length : Int)), (69, .int .i64 ((k120 : Nat) : Int)), (112, .slice oa265 ([(S_t35.mk a2 a3 (S_api_Block.mk a4.Num a4.More a4.Size) a5 a6), (S_t35.mk y148 ([x160]) (S_api_Block.mk y67 a4.More y60) y186 y194), (S_t35.mk y210 ([(9 : UInt8)]) (S_api_Block.mk 0 true 0) y221 41)]).length c266), (113, .int .i64 (([(S_t35.mk a2 a3 (S_api_Block.mk a4.Num a4.More a4.Size) a5 a6), (S_t35.mk y148 ([x160]) (S_api_Block.mk y67 a4.More y60) y186 y194), (S_t35.mk y210 ([(9 : UInt8)]) (S_api_Block.mk 0 true 0) y221 41)]).length : Int)), (114, .int .i64 0)]) ⟨rfl, rfl, rfl, rfl, rfl, rfl, rfl, rfl, rfl, rfl, rfl, rfl, rfl, rfl, trivial⟩ ?_
                  refine CW.loop (fun n280 F_ w278 => ∃ (lab279 : Lab) (k281 : Nat) (rem282 : List S_t35)  , n280 = rem282.length ∧ ([(S_t35.mk a2 a3 (S_api_Block.mk a4.Num a4.More a4.Size) a5 a6), (S_t35.mk y148 ([x160]) (S_api_Block.mk y67 a4.More y60) y186 y194), (S_t35.mk y210 ([(9 : UInt8)]) (S_api_Block.mk 0 true 0) y221 41)]).drop k281 = rem282 ∧ F_ = [(2, .int .i64 a2), (3, .slice oa7 a3.length c8), (5, .slice oa10 a5.length c11), (6, .int .i64 a6), (11, .pointer (some ⟨g13, 0, none⟩)), (17, .int .i64 y60), (18, .pointer (some ⟨g83, 0, none⟩)), (21, .slice oa127 x122.length c128), (67, .slice oa104 ([a0, y51.1, x96]).length c105), (68, .int .i64 (([a0, y51.1, x96]).length : Int)), (69, .int .i64 ((k120 : Nat) : Int)), (112, .slice oa265 ([(S_t35.mk a2 a3 (S_api_Block.mk a4.Num a4.More a4.Size) a5 a6), (S_t35.mk y148 ([x160]) (S_api_Block.mk y67 a4.More y60) y186 y194), (S_t35.mk y210 ([(9 : UInt8)]) (S_api_Block.mk 0 true 0) y221 41)]).length c266), (113, .int .i64 (([(S_t35.mk a2 a3 (S_api_Block.mk a4.Num a4.More a4.Size) a5 a6), (S_t35.mk y148 ([x160]) (S_api_Block.mk y67 a4.More y60) y186 y194), (S_t35.mk y210 ([(9 : UInt8)]) (S_api_Block.mk 0 true 0) y221 41)]).length : Int)), (114, .int .i64 ((k281 : Nat) : Int))] ∧ Cx [] w lab w278 lab279 ∧ SL Rep.u8 lab279 w278 oa7 c8 a3 ∧ SL Rep.u8 lab279 w278 oa10 c11 a5 ∧ Box lab279 w278 21 g13 26 [.int .i64 a4.Num, .bool a4.More, .int .i64 a4.Size] ∧ Box lab279 w278 28 g83 26 [.int .i64 y67, .bool a4.More, .int .i64 y60] ∧ SL R_api_Partial lab279 w278 oa127 c128 x122 ∧ SL (Rep.sl R_api_Partial) lab279 w278 oa104 c105 ([a0, y51.1, x96]) ∧ SL R_t35 lab279 w278 oa265 c266 ([(S_t35.mk a2 a3 (S_api_Block.mk a4.Num a4.More a4.Size) a5 a6), (S_t35.mk y148 ([x160]) (S_api_Block.mk y67 a4.More y60) y186 y194), (S_t35.mk y210 ([(9 : UInt8)]) (S_api_Block.mk 0 true 0) y221 41)]) ∧ m_coreseclaw18_BlockPuts_l2 x122 rem282 k281 = some s272) _ ⟨_, 0, [(S_t35.mk a2 a3 (S_api_Block.mk a4.Num a4.More a4.Size) a5 a6), (S_t35.mk y148 ([x160]) (S_api_Block.mk y67 a4.More y60) y186 y194), (S_t35.mk y210 ([(9 : UInt8)]) (S_api_Block.mk 0 true 0) y221 41)], rfl, rfl, rfl, cx, s9, s12, b17, b88, s129, s107, s267, hm⟩ ?_
                  rintro n280 _ w278 ⟨lab279, k281, rem282, rfl, hd, rfl, cx, s9, s12, b17, b88, s129, s107, s267, hm⟩
                  rcases rem282 with _ | ⟨x283, rem282⟩
                  · rw [m_coreseclaw18_BlockPuts_l2] at hm; have hlt := drop_nil hd
                    refine CW.seq ?_
                    refine CW.region ?_
                    refine LW.lss_lit hlt wn rfl rfl rfl ?_
                    refine LW.nil ?_
                    refine EW.seq_n ?_
                    refine CW.seq ?_
                    refine CW.cond_f rfl ?_
                    refine CW.exit ?_
                    refine EW.seq_x ?_
                    refine EW.join_x ?_
                    refine EW.block_x ?_
                    obtain rfl := Option.some.inj hm
                    refine EW.sub (G := [(2, .int .i64 a2), (3, .slice oa7 a3.length c8), (5, .slice oa10 a5.length c11), (6, .int .i64 a6), (11, .pointer (some ⟨g13, 0, none⟩)), (17, .int .i64 y60), (18, .pointer (some ⟨g83, 0, none⟩)), (67, .slice oa104 ([a0, y51.1, x96]).length c105), (68, .int .i64 (([a0, y51.1, x96]).length : Int)), (69, .int .i64 ((k120 : Nat) : Int))]) ⟨rfl, rfl, rfl, rfl, rfl, rfl, rfl, rfl, rfl, rfl, trivial⟩ ?_
                    exact EW.join_n ⟨(), _, rfl, rfl, cx, s9, s12, b17, b88, s107, trivial⟩
                  · rw [m_coreseclaw18_BlockPuts_l2] at hm; obtain ⟨hlt, hix, hd, hlt2⟩ := drop_cons hd
                    refine CW.seq ?_
                    refine CW.region ?_
                    refine LW.lss_lit hlt wn rfl rfl rfl ?_
                    refine LW.nil ?_
                    refine EW.seq_n ?_
                    refine CW.seq ?_
                    refine CW.cond_t rfl ?_
                    refine CW.skip ?_
                    refine EW.seq_n ?_
                    refine CW.seq ?_
                    refine CW.block ?_
                    refine CW.seq ?_
                    refine CW.region ?_
                    refine LW.index (bnd_ret hix) s267 kSl_38 wn rfl rfl rfl ?_; intro x_ p284 cs285 hx_ hr286 ha287; cases hx_
                    obtain ⟨oa288, c289, oa291, c292, rfl, s290, s293, _⟩ := hr286
                    refine LW.loadAn ha287 kAgg_35 rfl wn rfl rfl ?_
                    refine LW.alloc 33 [.int .i64 0, .slice none 0 0, .int .i64 0, .bool false, .int .i64 0, .slice none 0 0, .int .i64 0] kZero_35 rfl cx.top wn rfl ?_
                    intro g294 lab295 w296 e297 b298
                    replace cx := cx.step e297 rfl
                    replace s9 := s9.step e297
                    replace s12 := s12.step e297
                    replace b17 := b17.step e297 rfl
                    replace b88 := b88.step e297 rfl
                    replace s129 := s129.step e297
                    replace s107 := s107.step e297
                    replace s267 := s267.step e297
                    replace ha287 := ha287.step e297
                    replace s290 := s290.step e297
                    replace s293 := s293.step e297
                    clear e297
                    refine LW.storeBn [.int .i64 x283.p, .slice oa288 x283.k.length c289, .int .i64 x283.b.Num, .bool x283.b.More, .int .i64 x283.b.Size, .slice oa291 x283.c.length c292, .int .i64 x283.t] [.int .i64 x283.p, .slice oa288 x283.k.length c289, .int .i64 x283.b.Num, .bool x283.b.More, .int .i64 x283.b.Size, .slice oa291 x283.c.length c292, .int .i64 x283.t] b298 cx.top rfl kAgg_35 rfl rfl rfl rfl wn rfl rfl ?_
                    intro w299 e300 b301; clear b298
                    replace cx := cx.step e300 rfl
                    replace s9 := s9.step e300
                    replace s12 := s12.step e300
                    replace b17 := b17.step e300 rfl
                    replace b88 := b88.step e300 rfl
                    replace s129 := s129.step e300
                    replace s290 := s290.step e300
                    replace s293 := s293.step e300
                    replace s107 := s107.step e300
                    replace s267 := s267.step e300
                    replace ha287 := ha287.step e300
                    clear e300
                    refine LW.nil ?_
                    refine EW.seq_n ?_
                    refine CW.seq ?_
                    refine CW.region ?_
                    refine LW.move wn rfl rfl ?_
                    refine LW.fldB 0 kFld_35_0 rfl wn rfl rfl ?_
                    refine LW.loadB1 b301 kOne_3 rfl wn rfl rfl ?_
                    refine LW.fldB 1 kFld_35_1 rfl wn rfl rfl ?_
                    refine LW.loadB1 b301 kOne_24 rfl wn rfl rfl ?_
                    refine LW.fldB 2 kFld_35_2 rfl wn rfl rfl ?_
                    refine LW.loadBn [.int .i64 x283.b.Num, .bool x283.b.More, .int .i64 x283.b.Size] b301 kAgg_26 rfl rfl wn rfl rfl ?_
                    refine LW.fldB 5 kFld_35_3 rfl wn rfl rfl ?_
                    refine LW.loadB1 b301 kOne_24 rfl wn rfl rfl ?_
                    refine LW.fldB 6 kFld_35_4 rfl wn rfl rfl ?_
                    refine LW.loadB1 b301 kOne_3 rfl wn rfl rfl ?_
                    obtain ⟨y302, h306, hm_⟩ := bnd_some hm; clear hm; have hm := hm_; clear hm_
                    refine LW.call kFn_17 (c_block_Put h306 cx.top s129 s290 s293) wn rfl rfl ?_
                    rintro _ w303 ⟨oa307, c308, oa310, c311, rfl, e304, s309, s312, _⟩; refine ⟨_, rfl, ?_⟩
                    replace cx := cx.step e304 rfl
                    replace s9 := s9.step e304
                    replace s12 := s12.step e304
                    replace b17 := b17.step e304 rfl
                    replace b88 := b88.step e304 rfl
                    replace s129 := s129.step e304
                    replace b301 := b301.step e304 rfl
                    replace s290 := s290.step e304
                    replace s293 := s293.step e304
                    replace s107 := s107.step e304
                    replace s267 := s267.step e304
                    clear e304
                    refine LW.move wn rfl rfl ?_
                    refine LW.extract wn rfl rfl rfl ?_
                    refine LW.extract wn rfl rfl rfl ?_
                    refine LW.extract wn rfl rfl rfl ?_
                    refine LW.extract wn rfl rfl rfl ?_
                    refine LW.assign wn rfl rfl ?_
                    refine LW.assign wn rfl rfl ?_
                    refine LW.assign wn rfl rfl ?_
                    refine LW.assign wn rfl rfl ?_
                    refine LW.nil ?_
                    refine EW.seq_n ?_
                    refine CW.seq ?_
                    refine CW.region ?_
                    refine LW.move wn rfl rfl ?_
                    refine LW.fldB 0 kFld_35_0 rfl wn rfl rfl ?_
                    refine LW.loadB1 b301 kOne_3 rfl wn rfl rfl ?_
                    refine LW.fldB 1 kFld_35_1 rfl wn rfl rfl ?_
                    refine LW.loadB1 b301 kOne_24 rfl wn rfl rfl ?_
                    refine LW.fldB 2 kFld_35_2 rfl wn rfl rfl ?_
                    refine LW.loadBn [.int .i64 x283.b.Num, .bool x283.b.More, .int .i64 x283.b.Size] b301 kAgg_26 rfl rfl wn rfl rfl ?_
                    refine LW.fldB 5 kFld_35_3 rfl wn rfl rfl ?_
                    refine LW.loadB1 b301 kOne_24 rfl wn rfl rfl ?_
                    refine LW.fldB 6 kFld_35_4 rfl wn rfl rfl ?_
                    refine LW.loadB1 b301 kOne_3 rfl wn rfl rfl ?_
                    obtain ⟨y313, h317, hm_⟩ := bnd_some hm; clear hm; have hm := hm_; clear hm_
                    refine LW.call kFn_18 (c_coresecref18_Put h317 cx.top s129 s290 s293) wn rfl rfl ?_
                    rintro _ w314 ⟨oa318, c319, oa321, c322, rfl, e315, s320, s323, _⟩; refine ⟨_, rfl, ?_⟩
                    replace cx := cx.step e315 rfl
                    replace s9 := s9.step e315
                    replace s12 := s12.step e315
                    replace b17 := b17.step e315 rfl
                    replace b88 := b88.step e315 rfl
                    replace s129 := s129.step e315
                    replace b301 := b301.step e315 rfl
                    replace s290 := s290.step e315
                    replace s293 := s293.step e315
                    replace s309 := s309.step e315
                    replace s312 := s312.step e315
                    replace s107 := s107.step e315
                    replace s267 := s267.step e315
                    clear e315
                    refine LW.move wn rfl rfl ?_
                    refine LW.extract wn rfl rfl rfl ?_
                    refine LW.extract wn rfl rfl rfl ?_
                    refine LW.extract wn rfl rfl rfl ?_
                    refine LW.extract wn rfl rfl rfl ?_
                    refine LW.assign wn rfl rfl ?_
                    refine LW.assign wn rfl rfl ?_
                    refine LW.assign wn rfl rfl ?_
                    refine LW.assign wn rfl rfl ?_
                    refine LW.nil ?_
                    refine EW.seq_n ?_
                    refine CW.seq ?_
                    obtain ⟨y324, h325, hm_⟩ := bnd_some hm; clear hm
                    refine CW.join_any (fun F_ w326 => ∃ (lab327 : Lab) , F_ = [(2, .int .i64 a2), (3, .slice oa7 a3.length c8), (5, .slice oa10 a5.length c11), (6, .int .i64 a6), (11, .pointer (some ⟨g13, 0, none⟩)), (17, .int .i64 y60), (18, .pointer (some ⟨g83, 0, none⟩)), (21, .slice oa127 x122.length c128), (67, .slice oa104 ([a0, y51.1, x96]).length c105), (68, .int .i64 (([a0, y51.1, x96]).length : Int)), (69, .int .i64 ((k120 : Nat) : Int)), (112, .slice oa265 ([(S_t35.mk a2 a3 (S_api_Block.mk a4.Num a4.More a4.Size) a5 a6), (S_t35.mk y148 ([x160]) (S_api_Block.mk y67 a4.More y60) y186 y194), (S_t35.mk y210 ([(9 : UInt8)]) (S_api_Block.mk 0 true 0) y221 41)]).length c266), (113, .int .i64 (([(S_t35.mk a2 a3 (S_api_Block.mk a4.Num a4.More a4.Size) a5 a6), (S_t35.mk y148 ([x160]) (S_api_Block.mk y67 a4.More y60) y186 y194), (S_t35.mk y210 ([(9 : UInt8)]) (S_api_Block.mk 0 true 0) y221 41)]).length : Int)), (114, .int .i64 ((k281 : Nat) : Int)), (172, .bool y324)] ∧ Cx [] w lab w326 lab327 ∧ SL Rep.u8 lab327 w326 oa7 c8 a3 ∧ SL Rep.u8 lab327 w326 oa10 c11 a5 ∧ Box lab327 w326 21 g13 26 [.int .i64 a4.Num, .bool a4.More, .int .i64 a4.Size] ∧ Box lab327 w326 28 g83 26 [.int .i64 y67, .bool a4.More, .int .i64 y60] ∧ SL R_api_Partial lab327 w326 oa127 c128 x122 ∧ SL (Rep.sl R_api_Partial) lab327 w326 oa104 c105 ([a0, y51.1, x96]) ∧ SL R_t35 lab327 w326 oa265 c266 ([(S_t35.mk a2 a3 (S_api_Block.mk a4.Num a4.More a4.Size) a5 a6), (S_t35.mk y148 ([x160]) (S_api_Block.mk y67 a4.More y60) y186 y194), (S_t35.mk y210 ([(9 : UInt8)]) (S_api_Block.mk 0 true 0) y221 41)]) ∧ True) ?_ ?_
                    · have hm := h325; clear h325
                      refine CW.region ?_
                      refine LW.move wn rfl rfl ?_
                      refine LW.move wn rfl rfl ?_
                      obtain ⟨y328, h332, hm_⟩ := bnd_some hm; clear hm; have hm := hm_; clear hm_
                      refine LW.call kFn_19 (c_coresecref18_Same h332 cx.top s309 s320) wn rfl rfl ?_
                      rintro _ w329 ⟨rfl, e330, _⟩; refine ⟨_, rfl, ?_⟩
                      replace cx := cx.step e330 rfl
                      replace s9 := s9.step e330
                      replace s12 := s12.step e330
                      replace b17 := b17.step e330 rfl
                      replace b88 := b88.step e330 rfl
                      replace s129 := s129.step e330
                      replace s309 := s309.step e330
                      replace s312 := s312.step e330
                      replace s320 := s320.step e330
                      replace s323 := s323.step e330
                      replace s107 := s107.step e330
                      replace s267 := s267.step e330
                      clear e330
                      refine LW.not hm wn rfl rfl ?_; clear hm; intro x333 hm
                      refine LW.move wn rfl rfl ?_
                      rcases Bool.eq_false_or_eq_true x333 with hb335 | hb335
                      · replace hm := cond_t hm hb335
                        refine LW.skip 156 rfl (bk rfl hb335) rfl rfl ?_
                        refine LW.skip 156 rfl (bk rfl hb335) rfl rfl ?_
                        refine LW.skip 156 rfl (bk rfl hb335) rfl rfl ?_
                        refine LW.skip 156 rfl (bk rfl hb335) rfl rfl ?_
                        refine LW.skip 156 rfl (bk rfl hb335) rfl rfl ?_
                        refine LW.pick_t wn rfl (bk rfl hb335) rfl ?_
                        refine LW.move wn rfl rfl ?_
                        refine LW.skip 163 rfl rfl rfl rfl ?_
                        refine LW.skip 163 rfl rfl rfl rfl ?_
                        refine LW.skip 163 rfl rfl rfl rfl ?_
                        refine LW.pick_t wn rfl rfl rfl ?_
                        refine LW.move wn rfl rfl ?_
                        refine LW.skip 168 rfl rfl rfl rfl ?_
                        refine LW.skip 168 rfl rfl rfl rfl ?_
                        refine LW.skip 168 rfl rfl rfl rfl ?_
                        refine LW.pick_t wn rfl rfl rfl ?_
                        refine LW.nil ?_
                        obtain rfl := Option.some.inj hm
                        refine EW.sub (G := [(2, .int .i64 a2), (3, .slice oa7 a3.length c8), (5, .slice oa10 a5.length c11), (6, .int .i64 a6), (11, .pointer (some ⟨g13, 0, none⟩)), (17, .int .i64 y60), (18, .pointer (some ⟨g83, 0, none⟩)), (21, .slice oa127 x122.length c128), (67, .slice oa104 ([a0, y51.1, x96]).length c105), (68, .int .i64 (([a0, y51.1, x96]).length : Int)), (69, .int .i64 ((k120 : Nat) : Int)), (112, .slice oa265 ([(S_t35.mk a2 a3 (S_api_Block.mk a4.Num a4.More a4.Size) a5 a6), (S_t35.mk y148 ([x160]) (S_api_Block.mk y67 a4.More y60) y186 y194), (S_t35.mk y210 ([(9 : UInt8)]) (S_api_Block.mk 0 true 0) y221 41)]).length c266), (113, .int .i64 (([(S_t35.mk a2 a3 (S_api_Block.mk a4.Num a4.More a4.Size) a5 a6), (S_t35.mk y148 ([x160]) (S_api_Block.mk y67 a4.More y60) y186 y194), (S_t35.mk y210 ([(9 : UInt8)]) (S_api_Block.mk 0 true 0) y221 41)]).length : Int)), (114, .int .i64 ((k281 : Nat) : Int)), (172, .bool true)]) ⟨rfl, rfl, rfl, rfl, rfl, rfl, rfl, rfl, rfl, rfl, rfl, rfl, rfl, rfl, rfl, trivial⟩ ?_
                        exact EW.join_n ⟨_, rfl, cx, s9, s12, b17, b88, s129, s107, s267, trivial⟩
                      · replace hm := cond_f hm hb335
                        refine LW.move (ws 156 rfl (bk rfl hb335)) rfl rfl ?_
                        refine LW.b2s (xs := y302.2.1) s312 kUnd_24 kUnd_5 kUnd_9 (ws 156 rfl (bk rfl hb335)) rfl rfl ?_
                        refine LW.move (ws 156 rfl (bk rfl hb335)) rfl rfl ?_
                        refine LW.b2s (xs := y313.2.1) s323 kUnd_24 kUnd_5 kUnd_9 (ws 156 rfl (bk rfl hb335)) rfl rfl ?_
                        refine LW.nes hm (ws 156 rfl (bk rfl hb335)) rfl rfl rfl ?_; clear hm; intro x336 hm
                        refine LW.pick_f wn rfl (bk rfl hb335) rfl ?_
                        refine LW.move wn rfl rfl ?_
                        rcases Bool.eq_false_or_eq_true x336 with hb338 | hb338
                        · replace hm := cond_t hm hb338
                          refine LW.skip 163 rfl (bk rfl hb338) rfl rfl ?_
                          refine LW.skip 163 rfl (bk rfl hb338) rfl rfl ?_
                          refine LW.skip 163 rfl (bk rfl hb338) rfl rfl ?_
                          refine LW.pick_t wn rfl (bk rfl hb338) rfl ?_
                          refine LW.move wn rfl rfl ?_
                          refine LW.skip 168 rfl rfl rfl rfl ?_
                          refine LW.skip 168 rfl rfl rfl rfl ?_
                          refine LW.skip 168 rfl rfl rfl rfl ?_
                          refine LW.pick_t wn rfl rfl rfl ?_
                          refine LW.nil ?_
                          obtain rfl := Option.some.inj hm
                          refine EW.sub (G := [(2, .int .i64 a2), (3, .slice oa7 a3.length c8), (5, .slice oa10 a5.length c11), (6, .int .i64 a6), (11, .pointer (some ⟨g13, 0, none⟩)), (17, .int .i64 y60), (18, .pointer (some ⟨g83, 0, none⟩)), (21, .slice oa127 x122.length c128), (67, .slice oa104 ([a0, y51.1, x96]).length c105), (68, .int .i64 (([a0, y51.1, x96]).length : Int)), (69, .int .i64 ((k120 : Nat) : Int)), (112, .slice oa265 ([(S_t35.mk a2 a3 (S_api_Block.mk a4.Num a4.More a4.Size) a5 a6), (S_t35.mk y148 ([x160]) (S_api_Block.mk y67 a4.More y60) y186 y194), (S_t35.mk y210 ([(9 : UInt8)]) (S_api_Block.mk 0 true 0) y221 41)]).length c266), (113, .int .i64 (([(S_t35.mk a2 a3 (S_api_Block.mk a4.Num a4.More a4.Size) a5 a6), (S_t35.mk y148 ([x160]) (S_api_Block.mk y67 a4.More y60) y186 y194), (S_t35.mk y210 ([(9 : UInt8)]) (S_api_Block.mk 0 true 0) y221 41)]).length : Int)), (114, .int .i64 ((k281 : Nat) : Int)), (172, .bool true)]) ⟨rfl, rfl, rfl, rfl, rfl, rfl, rfl, rfl, rfl, rfl, rfl, rfl, rfl, rfl, rfl, trivial⟩ ?_
                          exact EW.join_n ⟨_, rfl, cx, s9, s12, b17, b88, s129, s107, s267, trivial⟩
                        · replace hm := cond_f hm hb338
                          refine LW.move (ws 163 rfl (bk rfl hb338)) rfl rfl ?_
                          refine LW.move (ws 163 rfl (bk rfl hb338)) rfl rfl ?_
                          refine LW.neb hm kUnd_4 (ws 163 rfl (bk rfl hb338)) rfl rfl rfl ?_; clear hm; intro x339 hm
                          refine LW.pick_f wn rfl (bk rfl hb338) rfl ?_
                          refine LW.move wn rfl rfl ?_
                          rcases Bool.eq_false_or_eq_true x339 with hb341 | hb341
                          · replace hm := cond_t hm hb341
                            refine LW.skip 168 rfl (bk rfl hb341) rfl rfl ?_
                            refine LW.skip 168 rfl (bk rfl hb341) rfl rfl ?_
                            refine LW.skip 168 rfl (bk rfl hb341) rfl rfl ?_
                            refine LW.pick_t wn rfl (bk rfl hb341) rfl ?_
                            refine LW.nil ?_
                            obtain rfl := Option.some.inj hm
                            refine EW.sub (G := [(2, .int .i64 a2), (3, .slice oa7 a3.length c8), (5, .slice oa10 a5.length c11), (6, .int .i64 a6), (11, .pointer (some ⟨g13, 0, none⟩)), (17, .int .i64 y60), (18, .pointer (some ⟨g83, 0, none⟩)), (21, .slice oa127 x122.length c128), (67, .slice oa104 ([a0, y51.1, x96]).length c105), (68, .int .i64 (([a0, y51.1, x96]).length : Int)), (69, .int .i64 ((k120 : Nat) : Int)), (112, .slice oa265 ([(S_t35.mk a2 a3 (S_api_Block.mk a4.Num a4.More a4.Size) a5 a6), (S_t35.mk y148 ([x160]) (S_api_Block.mk y67 a4.More y60) y186 y194), (S_t35.mk y210 ([(9 : UInt8)]) (S_api_Block.mk 0 true 0) y221 41)]).length c266), (113, .int .i64 (([(S_t35.mk a2 a3 (S_api_Block.mk a4.Num a4.More a4.Size) a5 a6), (S_t35.mk y148 ([x160]) (S_api_Block.mk y67 a4.More y60) y186 y194), (S_t35.mk y210 ([(9 : UInt8)]) (S_api_Block.mk 0 true 0) y221 41)]).length : Int)), (114, .int .i64 ((k281 : Nat) : Int)), (172, .bool true)]) ⟨rfl, rfl, rfl, rfl, rfl, rfl, rfl, rfl, rfl, rfl, rfl, rfl, rfl, rfl, rfl, trivial⟩ ?_
                            exact EW.join_n ⟨_, rfl, cx, s9, s12, b17, b88, s129, s107, s267, trivial⟩
                          · replace hm := cond_f hm hb341
                            refine LW.move (ws 168 rfl (bk rfl hb341)) rfl rfl ?_
                            refine LW.move (ws 168 rfl (bk rfl hb341)) rfl rfl ?_
                            refine LW.neq hm (ws 168 rfl (bk rfl hb341)) rfl rfl rfl ?_; clear hm; intro x342 hm
                            refine LW.pick_f wn rfl (bk rfl hb341) rfl ?_
                            refine LW.nil ?_
                            obtain rfl := Option.some.inj hm
                            refine EW.sub (G := [(2, .int .i64 a2), (3, .slice oa7 a3.length c8), (5, .slice oa10 a5.length c11), (6, .int .i64 a6), (11, .pointer (some ⟨g13, 0, none⟩)), (17, .int .i64 y60), (18, .pointer (some ⟨g83, 0, none⟩)), (21, .slice oa127 x122.length c128), (67, .slice oa104 ([a0, y51.1, x96]).length c105), (68, .int .i64 (([a0, y51.1, x96]).length : Int)), (69, .int .i64 ((k120 : Nat) : Int)), (112, .slice oa265 ([(S_t35.mk a2 a3 (S_api_Block.mk a4.Num a4.More a4.Size) a5 a6), (S_t35.mk y148 ([x160]) (S_api_Block.mk y67 a4.More y60) y186 y194), (S_t35.mk y210 ([(9 : UInt8)]) (S_api_Block.mk 0 true 0) y221 41)]).length c266), (113, .int .i64 (([(S_t35.mk a2 a3 (S_api_Block.mk a4.Num a4.More a4.Size) a5 a6), (S_t35.mk y148 ([x160]) (S_api_Block.mk y67 a4.More y60) y186 y194), (S_t35.mk y210 ([(9 : UInt8)]) (S_api_Block.mk 0 true 0) y221 41)]).length : Int)), (114, .int .i64 ((k281 : Nat) : Int)), (172, .bool x342)]) ⟨rfl, rfl, rfl, rfl, rfl, rfl, rfl, rfl, rfl, rfl, rfl, rfl, rfl, rfl, rfl, trivial⟩ ?_
                            exact EW.join_n ⟨_, rfl, cx, s9, s12, b17, b88, s129, s107, s267, trivial⟩
                    · rintro _ w326 ⟨lab327, rfl, cx, s9, s12, b17, b88, s129, s107, s267, _⟩
                      have hm := hm_; clear hm_
                      refine EW.seq_n ?_
                      refine CW.cond (b := y324) rfl (fun hb343 => ?_) (fun hb343 => ?_)
                      · replace hm := cond_t hm hb343
                        refine CW.seq ?_
                        refine CW.region ?_
                        refine LW.assign wn rfl rfl ?_
                        refine LW.nil ?_
                        refine EW.seq_n ?_
                        refine CW.ret ?_
                        refine EW.block_r ?_
                        refine EW.seq_r ?_
                        refine EW.join_r ?_
                        refine EW.block_r ?_
                        refine EW.join_r ?_
                        obtain rfl := Option.some.inj hm; have hm := hs274 _ rfl
                        refine EW.block_r ?_
                        refine EW.seq_r ?_
                        refine EW.join_r ?_
                        refine EW.block_r ?_
                        refine EW.join_r ?_
                        obtain rfl := Option.some.inj hm; have hm := hs113 _ rfl
                        refine EW.seq_r ?_
                        obtain rfl := Option.some.inj hm
                        exact EW.ret1 rfl rfl ⟨rfl, (cx.ste t), trivial⟩
                      · replace hm := cond_f hm hb343
                        refine CW.skip ?_
                        refine EW.block_n ?_
                        refine EW.seq_n ?_
                        refine CW.region ?_
                        refine LW.add_lit (w64_succ hlt2 s267.le) wn rfl rfl rfl ?_
                        refine LW.move wn rfl rfl ?_
                        refine LW.nil ?_
                        refine EW.sub (G := [(2, .int .i64 a2), (3, .slice oa7 a3.length c8), (5, .slice oa10 a5.length c11), (6, .int .i64 a6), (11, .pointer (some ⟨g13, 0, none⟩)), (17, .int .i64 y60), (18, .pointer (some ⟨g83, 0, none⟩)), (21, .slice oa127 x122.length c128), (67, .slice oa104 ([a0, y51.1, x96]).length c105), (68, .int .i64 (([a0, y51.1, x96]).length : Int)), (69, .int .i64 ((k120 : Nat) : Int)), (112, .slice oa265 ([(S_t35.mk a2 a3 (S_api_Block.mk a4.Num a4.More a4.Size) a5 a6), (S_t35.mk y148 ([x160]) (S_api_Block.mk y67 a4.More y60) y186 y194), (S_t35.mk y210 ([(9 : UInt8)]) (S_api_Block.mk 0 true 0) y221 41)]).length c266), (113, .int .i64 (([(S_t35.mk a2 a3 (S_api_Block.mk a4.Num a4.More a4.Size) a5 a6), (S_t35.mk y148 ([x160]) (S_api_Block.mk y67 a4.More y60) y186 y194), (S_t35.mk y210 ([(9 : UInt8)]) (S_api_Block.mk 0 true 0) y221 41)]).length : Int)), (114, .int .i64 ((k281 + 1 : Nat) : Int))]) ⟨rfl, rfl, rfl, rfl, rfl, rfl, rfl, rfl, rfl, rfl, rfl, rfl, rfl, rfl, trivial⟩ ?_
                        exact EW.join_n ⟨_, Nat.lt_succ_self _, _, k281 + 1, rem282, rfl, hd, rfl, cx, s9, s12, b17, b88, s129, s107, s267, hm⟩
                · rintro _ w276 ⟨y271, lab277, hsr_, rfl, cx, s9, s12, b17, b88, s107, _⟩
                  have hm := hs275 _ hsr_; clear hsr_
                  refine EW.block_n ?_
                  refine EW.seq_n ?_
                  refine CW.region ?_
                  refine LW.add_lit (w64_succ hlt2 s107.le) wn rfl rfl rfl ?_
                  refine LW.move wn rfl rfl ?_
                  refine LW.nil ?_
                  refine EW.sub (G := [(2, .int .i64 a2), (3, .slice oa7 a3.length c8), (5, .slice oa10 a5.length c11), (6, .int .i64 a6), (11, .pointer (some ⟨g13, 0, none⟩)), (17, .int .i64 y60), (18, .pointer (some ⟨g83, 0, none⟩)), (67, .slice oa104 ([a0, y51.1, x96]).length c105), (68, .int .i64 (([a0, y51.1, x96]).length : Int)), (69, .int .i64 ((k120 + 1 : Nat) : Int))]) ⟨rfl, rfl, rfl, rfl, rfl, rfl, rfl, rfl, rfl, rfl, trivial⟩ ?_
                  exact EW.join_n ⟨_, Nat.lt_succ_self _, _, k120 + 1, rem121, rfl, hd, rfl, cx, s9, s12, b17, b88, s107, hm⟩
        · rintro _ w115 ⟨y110, lab116, hsr_, rfl, cx, _⟩
          have hm := hs114 _ hsr_; clear hsr_
          refine EW.seq_n ?_
          refine CW.seq ?_
          refine CW.region ?_
          obtain ⟨y344, h348, hm_⟩ := bnd_some hm; clear hm; have hm := hm_; clear hm_
          refine LW.call kFn_10 (c_coreseclaw18_awake h348 cx.top) wn rfl rfl ?_
          rintro _ w345 ⟨rfl, e346, _⟩; refine ⟨_, rfl, ?_⟩
          replace cx := cx.step e346 rfl
          clear e346
          refine LW.assign wn rfl rfl ?_
          refine LW.nil ?_
          refine EW.seq_n ?_
          refine CW.ret ?_
          obtain rfl := Option.some.inj hm
          exact EW.ret1 rfl rfl ⟨rfl, (cx.ste t), trivial⟩
end Go.Proofs.Ytaefnnamjphieaa
