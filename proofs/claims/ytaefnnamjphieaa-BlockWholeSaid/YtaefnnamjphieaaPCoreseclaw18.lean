/-
  Package coreseclaw18: models of its functions, and that the functions compute them. No condition but that the model has a value.
-/
import Derived.Test.YtaefnnamjphieaaPCoresecref18C
namespace Go.Proofs.Ytaefnnamjphieaa
open Go.Gk Go.RowKit
set_option linter.unusedVariables false in
def m_coreseclaw18_awake  : Option (Bool) :=
  bnd (m_block_Value (S_api_Block.mk 2 true 1)) fun y1 =>
  bnd (mkl 40 (0 : UInt8)) fun x9 =>
  bnd (m_block_Cut x9 2 0) fun y17 =>
  bnd (m_block_Put ([]) 1 ([]) (S_api_Block.mk 1 false 0) ([(1 : UInt8)]) 0) fun y31 =>
  bnd (letm (y1.2 == 0) fun x46 =>
  (cond x46 (letm (y1.1 == ([41])) fun x49 =>
  (cond x49 (letm ((y17.1.length : Int) == 8) fun x52 =>
  (cond x52 (letm (!y17.2.1) fun x55 =>
  (cond x55 (letm (y17.2.2 == 0) fun x58 =>
  (cond x58 (letm (y31.2.2.2 == 15) fun x61 =>
  some (x61))
   (some (false))))
   (some (false))))
   (some (false))))
   (some (false))))
   (some (false))) : Option (Bool)) fun y42 =>
  some y42
set_option maxRecDepth 100000 in
set_option maxHeartbeats 2000000 in
theorem c_coreseclaw18_awake {lab : Lab} {w : World}  {r : Bool} (hm : m_coreseclaw18_awake  = some r) (t : Top lab w) : Calls Try.prog 10 [].toArray w (fun e w' => e = .returned (.bool r) ∧ Ste lab 0 w lab w' ∧ True) := by
  refine enter Try.func10 rfl 53 rfl rfl ?_
  have cx := Cx.start t
  refine CW.sub (G := []) trivial ?_
  unfold m_coreseclaw18_awake at hm
  refine CW.seq ?_
  refine CW.region ?_
  refine LW.assign wn rfl rfl ?_
  refine LW.nil ?_
  refine EW.seq_n ?_
  refine CW.seq ?_
  refine CW.region ?_
  refine LW.build (vs := [(0, .int .i64 2), (1, .bool true), (2, .int .i64 1)]) (cs := [.int .i64 2, .bool true, .int .i64 1]) rfl ((kBuilt_26 _).trans rfl) wn rfl ?_
  obtain ⟨y1, h5, hm_⟩ := bnd_some hm; clear hm; have hm := hm_; clear hm_
  refine LW.call kFn_25 (c_block_Value h5 cx.top) wn rfl rfl ?_
  rintro _ w2 ⟨oa6, c7, rfl, e3, s8, _⟩; refine ⟨_, rfl, ?_⟩
  replace cx := cx.step e3 rfl
  clear e3
  refine LW.move wn rfl rfl ?_
  refine LW.extract wn rfl rfl rfl ?_
  refine LW.extract wn rfl rfl rfl ?_
  refine LW.assign wn rfl rfl ?_
  refine LW.assign wn rfl rfl ?_
  refine LW.nil ?_
  refine EW.seq_n ?_
  refine CW.seq ?_
  refine CW.region ?_
  refine LW.make (k := 26) (ρ := Rep.u8) (z := (0 : UInt8)) (zc := [.int .u8 ((0 : UInt8).toNat : Int)]) hm kSl_24 kZero_5 rfl (fun _ _ => (show _ from rfl)) rfl rfl cx.top wn rfl rfl rfl ?_; clear hm; intro x9 oa10 c11 lab12 w13 hm e14 o15
  replace cx := cx.step e14 rfl
  replace s8 := s8.step e14
  clear e14
  have s16 := Own.view o15; replace cx := cx.mask (k := 26) rfl
  replace s8 := s8.keep (Keeps.mask (k := 26))
  obtain ⟨y17, h21, hm_⟩ := bnd_some hm; clear hm; have hm := hm_; clear hm_
  refine LW.call kFn_20 (c_block_Cut h21 cx.top s16) wn rfl rfl ?_
  rintro _ w18 ⟨oa22, c23, rfl, e19, s24, _⟩; refine ⟨_, rfl, ?_⟩
  replace cx := cx.step e19 rfl
  replace s8 := s8.step e19
  replace s16 := s16.step e19
  clear e19
  refine LW.move wn rfl rfl ?_
  refine LW.extract wn rfl rfl rfl ?_
  refine LW.extract wn rfl rfl rfl ?_
  refine LW.extract wn rfl rfl rfl ?_
  refine LW.assign wn rfl rfl ?_
  refine LW.assign wn rfl rfl ?_
  refine LW.assign wn rfl rfl ?_
  refine LW.nil ?_
  refine EW.seq_n ?_
  refine CW.seq ?_
  refine CW.region ?_
  refine LW.build (vs := [(0, .int .i64 1)]) (cs := [.int .i64 1, .bool false, .int .i64 0]) rfl ((kBuilt_26 _).trans rfl) wn rfl ?_
  refine LW.buildSlice (ρ := Rep.u8) (vs := [(0, .int .u8 ((1 : UInt8).toNat : Int))]) (css := [[.int .u8 ((1 : UInt8).toNat : Int)]]) (xs := [(1 : UInt8)]) rfl kSl_24 kZero_5 (by kernel_rfl) rfl rfl ⟨rfl, trivial⟩ cx.top wn rfl ?_
  intro oa25 c26 lab29 w30 e27 s28
  replace cx := cx.step e27 rfl
  replace s8 := s8.step e27
  replace s24 := s24.step e27
  clear e27
  obtain ⟨y31, h35, hm_⟩ := bnd_some hm; clear hm; have hm := hm_; clear hm_
  refine LW.call kFn_17 (c_block_Put h35 cx.top SL.nil SL.nil s28) wn rfl rfl ?_
  rintro _ w32 ⟨oa36, c37, oa39, c40, rfl, e33, s38, s41, _⟩; refine ⟨_, rfl, ?_⟩
  replace cx := cx.step e33 rfl
  replace s8 := s8.step e33
  replace s24 := s24.step e33
  replace s28 := s28.step e33
  clear e33
  refine LW.move wn rfl rfl ?_
  refine LW.extract wn rfl rfl rfl ?_
  refine LW.extract wn rfl rfl rfl ?_
  refine LW.extract wn rfl rfl rfl ?_
  refine LW.extract wn rfl rfl rfl ?_
  refine LW.assign wn rfl rfl ?_
  refine LW.assign wn rfl rfl ?_
  refine LW.assign wn rfl rfl ?_
  refine LW.assign wn rfl rfl ?_
  refine LW.nil ?_
  refine EW.seq_n ?_
  refine CW.seq ?_
  obtain ⟨y42, h43, hm_⟩ := bnd_some hm; clear hm
  refine CW.join_any (fun F_ w44 => ∃ (lab45 : Lab) , F_ = [(0, .bool y42)] ∧ Cx [] w lab w44 lab45 ∧ True) ?_ ?_
  · have hm := h43; clear h43
    refine CW.region ?_
    refine LW.move wn rfl rfl ?_
    refine LW.eql hm wn rfl rfl rfl ?_; clear hm; intro x46 hm
    refine LW.move wn rfl rfl ?_
    rcases Bool.eq_false_or_eq_true x46 with hb48 | hb48
    · replace hm := cond_t hm hb48
      refine LW.move (ws 31 rfl (bk rfl hb48)) rfl rfl ?_
      refine LW.b2s (xs := y1.1) s8 kUnd_24 kUnd_5 kUnd_9 (ws 31 rfl (bk rfl hb48)) rfl rfl ?_
      refine LW.eqs hm (ws 31 rfl (bk rfl hb48)) rfl rfl rfl ?_; clear hm; intro x49 hm
      refine LW.pick_t wn rfl (bk rfl hb48) rfl ?_
      refine LW.move wn rfl rfl ?_
      rcases Bool.eq_false_or_eq_true x49 with hb51 | hb51
      · replace hm := cond_t hm hb51
        refine LW.move (ws 36 rfl (bk rfl hb51)) rfl rfl ?_
        refine LW.len kUnd_24 (ws 36 rfl (bk rfl hb51)) rfl rfl ?_
        refine LW.eql hm (ws 36 rfl (bk rfl hb51)) rfl rfl rfl ?_; clear hm; intro x52 hm
        refine LW.pick_t wn rfl (bk rfl hb51) rfl ?_
        refine LW.move wn rfl rfl ?_
        rcases Bool.eq_false_or_eq_true x52 with hb54 | hb54
        · replace hm := cond_t hm hb54
          refine LW.move (ws 41 rfl (bk rfl hb54)) rfl rfl ?_
          refine LW.not hm (ws 41 rfl (bk rfl hb54)) rfl rfl ?_; clear hm; intro x55 hm
          refine LW.pick_t wn rfl (bk rfl hb54) rfl ?_
          refine LW.move wn rfl rfl ?_
          rcases Bool.eq_false_or_eq_true x55 with hb57 | hb57
          · replace hm := cond_t hm hb57
            refine LW.move (ws 45 rfl (bk rfl hb57)) rfl rfl ?_
            refine LW.eql hm (ws 45 rfl (bk rfl hb57)) rfl rfl rfl ?_; clear hm; intro x58 hm
            refine LW.pick_t wn rfl (bk rfl hb57) rfl ?_
            refine LW.move wn rfl rfl ?_
            rcases Bool.eq_false_or_eq_true x58 with hb60 | hb60
            · replace hm := cond_t hm hb60
              refine LW.move (ws 49 rfl (bk rfl hb60)) rfl rfl ?_
              refine LW.eql hm (ws 49 rfl (bk rfl hb60)) rfl rfl rfl ?_; clear hm; intro x61 hm
              refine LW.pick_t wn rfl (bk rfl hb60) rfl ?_
              refine LW.assign wn rfl rfl ?_
              refine LW.nil ?_
              obtain rfl := Option.some.inj hm
              refine EW.sub (G := [(0, .bool x61)]) ⟨rfl, trivial⟩ ?_
              exact EW.join_n ⟨_, rfl, cx, trivial⟩
            · replace hm := cond_f hm hb60
              refine LW.skip 49 rfl (bk rfl hb60) rfl rfl ?_
              refine LW.skip 49 rfl (bk rfl hb60) rfl rfl ?_
              refine LW.pick_f wn rfl (bk rfl hb60) rfl ?_
              refine LW.assign wn rfl rfl ?_
              refine LW.nil ?_
              obtain rfl := Option.some.inj hm
              refine EW.sub (G := [(0, .bool false)]) ⟨rfl, trivial⟩ ?_
              exact EW.join_n ⟨_, rfl, cx, trivial⟩
          · replace hm := cond_f hm hb57
            refine LW.skip 45 rfl (bk rfl hb57) rfl rfl ?_
            refine LW.skip 45 rfl (bk rfl hb57) rfl rfl ?_
            refine LW.pick_f wn rfl (bk rfl hb57) rfl ?_
            refine LW.move wn rfl rfl ?_
            refine LW.skip 49 rfl rfl rfl rfl ?_
            refine LW.skip 49 rfl rfl rfl rfl ?_
            refine LW.pick_f wn rfl rfl rfl ?_
            refine LW.assign wn rfl rfl ?_
            refine LW.nil ?_
            obtain rfl := Option.some.inj hm
            refine EW.sub (G := [(0, .bool false)]) ⟨rfl, trivial⟩ ?_
            exact EW.join_n ⟨_, rfl, cx, trivial⟩
        · replace hm := cond_f hm hb54
          refine LW.skip 41 rfl (bk rfl hb54) rfl rfl ?_
          refine LW.skip 41 rfl (bk rfl hb54) rfl rfl ?_
          refine LW.pick_f wn rfl (bk rfl hb54) rfl ?_
          refine LW.move wn rfl rfl ?_
          refine LW.skip 45 rfl rfl rfl rfl ?_
          refine LW.skip 45 rfl rfl rfl rfl ?_
          refine LW.pick_f wn rfl rfl rfl ?_
          refine LW.move wn rfl rfl ?_
          refine LW.skip 49 rfl rfl rfl rfl ?_
          refine LW.skip 49 rfl rfl rfl rfl ?_
          refine LW.pick_f wn rfl rfl rfl ?_
          refine LW.assign wn rfl rfl ?_
          refine LW.nil ?_
          obtain rfl := Option.some.inj hm
          refine EW.sub (G := [(0, .bool false)]) ⟨rfl, trivial⟩ ?_
          exact EW.join_n ⟨_, rfl, cx, trivial⟩
      · replace hm := cond_f hm hb51
        refine LW.skip 36 rfl (bk rfl hb51) rfl rfl ?_
        refine LW.skip 36 rfl (bk rfl hb51) rfl rfl ?_
        refine LW.skip 36 rfl (bk rfl hb51) rfl rfl ?_
        refine LW.pick_f wn rfl (bk rfl hb51) rfl ?_
        refine LW.move wn rfl rfl ?_
        refine LW.skip 41 rfl rfl rfl rfl ?_
        refine LW.skip 41 rfl rfl rfl rfl ?_
        refine LW.pick_f wn rfl rfl rfl ?_
        refine LW.move wn rfl rfl ?_
        refine LW.skip 45 rfl rfl rfl rfl ?_
        refine LW.skip 45 rfl rfl rfl rfl ?_
        refine LW.pick_f wn rfl rfl rfl ?_
        refine LW.move wn rfl rfl ?_
        refine LW.skip 49 rfl rfl rfl rfl ?_
        refine LW.skip 49 rfl rfl rfl rfl ?_
        refine LW.pick_f wn rfl rfl rfl ?_
        refine LW.assign wn rfl rfl ?_
        refine LW.nil ?_
        obtain rfl := Option.some.inj hm
        refine EW.sub (G := [(0, .bool false)]) ⟨rfl, trivial⟩ ?_
        exact EW.join_n ⟨_, rfl, cx, trivial⟩
    · replace hm := cond_f hm hb48
      refine LW.skip 31 rfl (bk rfl hb48) rfl rfl ?_
      refine LW.skip 31 rfl (bk rfl hb48) rfl rfl ?_
      refine LW.skip 31 rfl (bk rfl hb48) rfl rfl ?_
      refine LW.pick_f wn rfl (bk rfl hb48) rfl ?_
      refine LW.move wn rfl rfl ?_
      refine LW.skip 36 rfl rfl rfl rfl ?_
      refine LW.skip 36 rfl rfl rfl rfl ?_
      refine LW.skip 36 rfl rfl rfl rfl ?_
      refine LW.pick_f wn rfl rfl rfl ?_
      refine LW.move wn rfl rfl ?_
      refine LW.skip 41 rfl rfl rfl rfl ?_
      refine LW.skip 41 rfl rfl rfl rfl ?_
      refine LW.pick_f wn rfl rfl rfl ?_
      refine LW.move wn rfl rfl ?_
      refine LW.skip 45 rfl rfl rfl rfl ?_
      refine LW.skip 45 rfl rfl rfl rfl ?_
      refine LW.pick_f wn rfl rfl rfl ?_
      refine LW.move wn rfl rfl ?_
      refine LW.skip 49 rfl rfl rfl rfl ?_
      refine LW.skip 49 rfl rfl rfl rfl ?_
      refine LW.pick_f wn rfl rfl rfl ?_
      refine LW.assign wn rfl rfl ?_
      refine LW.nil ?_
      obtain rfl := Option.some.inj hm
      refine EW.sub (G := [(0, .bool false)]) ⟨rfl, trivial⟩ ?_
      exact EW.join_n ⟨_, rfl, cx, trivial⟩
  · rintro _ w44 ⟨lab45, rfl, cx, _⟩
    have hm := hm_; clear hm_
    refine EW.seq_n ?_
    refine CW.ret ?_
    obtain rfl := Option.some.inj hm
    exact EW.ret1 rfl rfl ⟨rfl, (cx.ste t), trivial⟩
set_option linter.unusedVariables false in
def m_coreseclaw18_partials_l1 (a0 : S_coresecmake_Deck) : Nat → (List S_api_Partial) → Int → S_coresecmake_Deck → Option ((List S_api_Partial) × S_coresecmake_Deck)
    | 0, _, _, _ => none
    | n27 + 1, x18, x19, x20 => letm (decide (0 < x19)) fun x28 =>
  (cond x28 (bnd (m_coresecmake_Deck_Next (S_coresecmake_Deck.mk a0.L x20.At) 2) fun y30 =>
  bnd (m_coresecmake_Deck_Next (S_coresecmake_Deck.mk a0.L y30.2.At) 4) fun y43 =>
  bnd (idx ([0, 0, 1, 2]) y43.1) fun x57 =>
  bnd (m_coresecmake_Deck_Next (S_coresecmake_Deck.mk a0.L y43.2.At) 4) fun y62 =>
  letm (decide (0 < y62.1)) fun x68 =>
  bnd (m_coresecmake_Deck_Next (S_coresecmake_Deck.mk a0.L y62.2.At) 2) fun y91 =>
  bnd (m_coresecmake_Deck_Next (S_coresecmake_Deck.mk a0.L y91.2.At) 4) fun y97 =>
  letm (toU8 y97.1) fun x103 =>
  bnd (m_coresecmake_Deck_Next (S_coresecmake_Deck.mk a0.L y97.2.At) 1048576) fun y112 =>
  letm (toU64 y30.1) fun x118 =>
  bnd (Gk.shl 16 (x118.toNat : Int)) fun x120 =>
  bnd (m_coresecmake_Some y112.1 x120) fun y123 =>
  bnd (m_coresecmake_Deck_Next (S_coresecmake_Deck.mk a0.L y112.2.At) 40) fun y131 =>
  bnd (m_coresecref18_Put x18 y91.1 ([x103]) (S_api_Block.mk x57 x68 y30.1) y123 y131.1) fun y148 =>
  letm (y148.2.2.2 == 0) fun x217 =>
  (cond x217 (letm (w64 (x19 - 1)) fun x219 =>
  m_coreseclaw18_partials_l1 a0 n27 y148.1 x219 (S_coresecmake_Deck.mk a0.L y131.2.At))
   (letm (w64 (x19 - 1)) fun x220 =>
  m_coreseclaw18_partials_l1 a0 n27 x18 x220 (S_coresecmake_Deck.mk a0.L y131.2.At))))
   (some ((x18, (S_coresecmake_Deck.mk a0.L x20.At)))))
set_option linter.unusedVariables false in
def m_coreseclaw18_partials (a0 : S_coresecmake_Deck) : Option ((List S_api_Partial) × S_coresecmake_Deck) :=
  bnd (m_coresecmake_Deck_Next (S_coresecmake_Deck.mk a0.L a0.At) 12) fun y4 =>
  bnd (m_coreseclaw18_partials_l1 a0 ((y4.1 : Int).toNat + 2) ([]) y4.1 (S_coresecmake_Deck.mk a0.L y4.2.At) : Option ((List S_api_Partial) × S_coresecmake_Deck)) fun y10 =>
  some (y10.1, (S_coresecmake_Deck.mk a0.L y10.2.At))
set_option maxRecDepth 100000 in
set_option maxHeartbeats 2000000 in
theorem c_coreseclaw18_partials {lab : Lab} {w : World} {a0 : S_coresecmake_Deck} {r : (List S_api_Partial) × S_coresecmake_Deck} (hm : m_coreseclaw18_partials a0 = some r) (t : Top lab w) {oa1 : Option Addr} {c2 : Nat} {kp gp : Nat} (bp : Box lab w kp gp 61 [.slice oa1 a0.L.length c2, .int .i64 a0.At]) (s3 : SL Rep.i64 lab w oa1 c2 a0.L) (hk : Nat.beq kp 0 = false := by rfl) : Calls Try.prog 12 [.pointer (some ⟨gp, 0, none⟩)].toArray w (fun e w' => ∃ (oa0_0 : Option Addr) (c0_0 : Nat), e = .returned (.slice oa0_0 r.1.length c0_0) ∧ Ste lab kp w lab w' ∧ Box lab w' kp gp 61 [.slice oa1 a0.L.length c2, .int .i64 r.2.At] ∧ SL R_api_Partial lab w' oa0_0 c0_0 r.1 ∧ True) := by
  refine enter Try.func12 rfl 55 rfl rfl ?_
  have cx := Cx.startP t bp; have b0 := bp; replace bp := bp.inP
  replace s3 := s3.keep (Keeps.linp b0 hk)
  refine CW.sub (G := [(0, .pointer (some ⟨gp, 0, none⟩))]) ⟨rfl, trivial⟩ ?_
  unfold m_coreseclaw18_partials at hm
  refine CW.seq ?_
  refine CW.region ?_
  refine LW.assign wn rfl rfl ?_
  refine LW.nil ?_
  refine EW.seq_n ?_
  refine CW.seq ?_
  refine CW.region ?_
  refine LW.assign wn rfl rfl ?_
  refine LW.nil ?_
  refine EW.seq_n ?_
  refine CW.seq ?_
  refine CW.seq ?_
  refine CW.region ?_
  refine LW.move wn rfl rfl ?_
  obtain ⟨y4, h8, hm_⟩ := bnd_some hm; clear hm; have hm := hm_; clear hm_
  refine LW.call kFn_21 (c_coresecmake_Deck_Next h8 cx.top bp s3) wn rfl rfl ?_
  rintro _ w5 ⟨rfl, e6, b9, _⟩; refine ⟨_, rfl, ?_⟩
  replace cx := cx.step e6 rfl
  replace s3 := s3.step e6
  clear bp
  clear e6
  refine LW.assign wn rfl rfl ?_
  refine LW.nil ?_
  refine EW.seq_n ?_
  obtain ⟨y10, h11, hm_⟩ := bnd_some hm; clear hm
  refine CW.join_any (fun F_ w16 => ∃ (lab17 : Lab) (oa12 : Option Addr) (c13 : Nat), F_ = [(0, .pointer (some ⟨gp, 0, none⟩)), (3, .slice oa12 y10.1.length c13)] ∧ Cx [gp] w lab w16 lab17 ∧ Box lab17 w16 2 gp 61 [.slice oa1 a0.L.length c2, .int .i64 y10.2.At] ∧ SL Rep.i64 lab17 w16 oa1 c2 a0.L ∧ SL R_api_Partial lab17 w16 oa12 c13 y10.1 ∧ True) ?_ ?_
  · have hm := h11; clear h11
    refine CW.block ?_
    refine CW.sub (G := [(0, .pointer (some ⟨gp, 0, none⟩)), (3, .slice none ([] : List S_api_Partial).length 0), (4, .int .i64 y4.1)]) ⟨rfl, rfl, rfl, trivial⟩ ?_
    refine CW.loop (fun n27 F_ w25 => ∃ (lab26 : Lab) (x18 : List S_api_Partial) (x19 : Int) (x20 : S_coresecmake_Deck) (oa21 : Option Addr) (c22 : Nat), F_ = [(0, .pointer (some ⟨gp, 0, none⟩)), (3, .slice oa21 x18.length c22), (4, .int .i64 x19)] ∧ Cx [gp] w lab w25 lab26 ∧ Box lab26 w25 2 gp 61 [.slice oa1 a0.L.length c2, .int .i64 x20.At] ∧ SL Rep.i64 lab26 w25 oa1 c2 a0.L ∧ SL R_api_Partial lab26 w25 oa21 c22 x18 ∧ m_coreseclaw18_partials_l1 a0 n27 x18 x19 x20 = some y10) ((y4.1 : Int).toNat + 2) ⟨_, _, _, _, none, 0, rfl, cx, b9, s3, SL.nil, hm⟩ ?_
    rintro n27 _ w25 ⟨lab26, x18, x19, x20, oa21, c22, rfl, cx, b24, s3, s23, hm⟩
    rcases n27 with _ | n27
    · rw [m_coreseclaw18_partials_l1] at hm; cases hm
    · rw [m_coreseclaw18_partials_l1] at hm
      refine CW.seq ?_
      refine CW.seq ?_
      refine CW.region ?_
      refine LW.move wn rfl rfl ?_
      refine LW.gtr hm wn rfl rfl rfl ?_; clear hm; intro x28 hm
      refine LW.nil ?_
      refine EW.seq_n ?_
      refine CW.cond (b := x28) rfl (fun hb29 => ?_) (fun hb29 => ?_)
      · replace hm := cond_t hm hb29
        refine CW.skip ?_
        refine EW.seq_n ?_
        refine CW.seq ?_
        refine CW.block ?_
        refine CW.seq ?_
        refine CW.region ?_
        refine LW.move wn rfl rfl ?_
        obtain ⟨y30, h34, hm_⟩ := bnd_some hm; clear hm; have hm := hm_; clear hm_
        refine LW.call kFn_21 (c_coresecmake_Deck_Next h34 cx.top b24 s3) wn rfl rfl ?_
        rintro _ w31 ⟨rfl, e32, b35, _⟩; refine ⟨_, rfl, ?_⟩
        replace cx := cx.step e32 rfl
        replace s3 := s3.step e32
        replace s23 := s23.step e32
        clear b24
        clear e32
        refine LW.assign wn rfl rfl ?_
        refine LW.nil ?_
        refine EW.seq_n ?_
        refine CW.seq ?_
        obtain ⟨y43, hx_y43, hm_⟩ := bnd_some hm; clear hm; have hm := hm_; clear hm_
        obtain ⟨x57, hx_x57, hm_⟩ := bnd_some hm; clear hm; have hm := hm_; clear hm_
        obtain ⟨y62, hx_y62, hm_⟩ := bnd_some hm; clear hm; have hm := hm_; clear hm_
        obtain ⟨x68, hx_x68, hm_⟩ := letm_some hm; clear hm; have hm := hm_; clear hm_
        refine CW.sub (G := [(0, .pointer (some ⟨gp, 0, none⟩)), (3, .slice oa21 x18.length c22), (4, .int .i64 x19), (5, .int .i64 y30.1)]) ⟨rfl, rfl, rfl, rfl, trivial⟩ ?_
        refine CW.drawL (fun i_ => if i_ = 2 then [2] else if i_ = 6 then [2] else []) (fun i_ => by (try dsimp only); (repeat' split) <;> rfl) kMix_ 11 (by kernel_rfl) cx.top ?_
        intro w77 e78
        replace cx := cx.step e78 rfl
        replace b35 := b35.step e78 rfl
        replace s3 := s3.step e78
        replace s23 := s23.step e78
        clear e78
        refine ⟨[(fun L_ lab_ w_ v_ => ∃ (oa36 : Option Addr) (c37 : Nat), v_ = .slice oa36 ([0, 0, 1, 2]).length c37 ∧ SL Rep.i64 lab_ w_ oa36 c37 ([0, 0, 1, 2]) ∧ True),
    (fun L_ lab_ w_ v_ => v_ = .pointer (some ⟨gp, 0, none⟩) ∧ True),
    (fun L_ lab_ w_ v_ => v_ = .int .i64 y43.1 ∧ True),
    (fun L_ lab_ w_ v_ => ∃ (p53 : Addr), v_ = .pointer (some p53) ∧ At lab_ w_ p53 [.int .i64 x57] ∧ True),
    (fun L_ lab_ w_ v_ => v_ = .int .i64 x57 ∧ True),
    (fun L_ lab_ w_ v_ => v_ = .pointer (some ⟨gp, 0, none⟩) ∧ True),
    (fun L_ lab_ w_ v_ => v_ = .int .i64 y62.1 ∧ True),
    (fun L_ lab_ w_ v_ => v_ = .bool x68 ∧ True),
    (fun L_ lab_ w_ v_ => v_ = .int .i64 y30.1 ∧ True),
    (fun L_ lab_ w_ v_ => v_ = .agg ([.int .i64 x57, .bool x68, .int .i64 y30.1] : List Value).toArray ∧ True),
    (fun L_ lab_ w_ v_ => ∃ (g72 : Nat), v_ = .pointer (some ⟨g72, 0, none⟩) ∧ Box lab_ w_ 16 g72 26 [.int .i64 0, .bool false, .int .i64 0] ∧ True)], (fun L_ lab_ w_ => Cx [gp] w lab w_ lab_ ∧ Box lab_ w_ 2 gp 61 (cond (L_ 6) [.slice oa1 a0.L.length c2, .int .i64 y62.2.At] (cond (L_ 2) [.slice oa1 a0.L.length c2, .int .i64 y43.2.At] [.slice oa1 a0.L.length c2, .int .i64 y30.2.At])) ∧ SL Rep.i64 lab_ w_ oa1 c2 a0.L ∧ SL R_api_Partial lab_ w_ oa21 c22 x18 ∧ True), ?_, ⟨cx, b35, s3, s23, trivial⟩, ?_, ?_⟩
        · exact ⟨by rintro i_ L_ lab_ w_ lab2_ w2_ v_ hne_ hd_ hk_ hp_ ⟨oa36, c37, hv_, s39, _⟩; exact ⟨oa36, c37, hv_, (s39.keep hp_), trivial⟩, by rintro i_ L_ lab_ w_ lab2_ w2_ v_ hne_ hd_ hk_ hp_ ⟨hv_, _⟩; exact ⟨hv_, trivial⟩, by rintro i_ L_ lab_ w_ lab2_ w2_ v_ hne_ hd_ hk_ hp_ ⟨hv_, _⟩; exact ⟨hv_, trivial⟩, by rintro i_ L_ lab_ w_ lab2_ w2_ v_ hne_ hd_ hk_ hp_ ⟨p53, hv_, ha56, _⟩; exact ⟨p53, hv_, (ha56.keep hp_), trivial⟩, by rintro i_ L_ lab_ w_ lab2_ w2_ v_ hne_ hd_ hk_ hp_ ⟨hv_, _⟩; exact ⟨hv_, trivial⟩, by rintro i_ L_ lab_ w_ lab2_ w2_ v_ hne_ hd_ hk_ hp_ ⟨hv_, _⟩; exact ⟨hv_, trivial⟩, by rintro i_ L_ lab_ w_ lab2_ w2_ v_ hne_ hd_ hk_ hp_ ⟨hv_, _⟩; exact ⟨hv_, trivial⟩, by rintro i_ L_ lab_ w_ lab2_ w2_ v_ hne_ hd_ hk_ hp_ ⟨hv_, _⟩; exact ⟨hv_, trivial⟩, by rintro i_ L_ lab_ w_ lab2_ w2_ v_ hne_ hd_ hk_ hp_ ⟨hv_, _⟩; exact ⟨hv_, trivial⟩, by rintro i_ L_ lab_ w_ lab2_ w2_ v_ hne_ hd_ hk_ hp_ ⟨hv_, _⟩; exact ⟨hv_, trivial⟩, by rintro i_ L_ lab_ w_ lab2_ w2_ v_ hne_ hd_ hk_ hp_ ⟨g72, hv_, b76, _⟩; exact ⟨g72, hv_, (b76.ke hk_ (by (try dsimp only); (repeat' split) <;> first | rfl | contradiction)), trivial⟩, trivial⟩
        · refine (ob_succ (ob_succ (ob_succ (ob_succ (ob_succ (ob_succ (ob_succ (ob_succ (ob_succ (ob_succ (ob_succ ob_nil ?_) ?_) ?_) ?_) ?_) ?_) ?_) ?_) ?_) ?_) ?_)
          · intro o_ L_ F_ lab_ w_ ho_ hL_ hw_ hcl_ hb_ hr_ hq_; obtain rfl := Option.some.inj (ho_ : some _ = some o_); obtain ⟨cx, b35, s3, s23, _⟩ := hq_
            refine LW.buildSlice (ρ := Rep.i64) (vs := [(0, .int .i64 0), (1, .int .i64 0), (2, .int .i64 1), (3, .int .i64 2)]) (css := [[.int .i64 0], [.int .i64 0], [.int .i64 1], [.int .i64 2]]) (xs := [0, 0, 1, 2]) rfl kSl_23 kZero_3 (by kernel_rfl) rfl rfl ⟨rfl, rfl, rfl, rfl, trivial⟩ cx.top wn rfl ?_
            intro oa36 c37 lab40 w41 e38 s39
            replace cx := cx.step e38 rfl
            replace b35 := b35.step e38 rfl
            replace s3 := s3.step e38
            replace s23 := s23.step e38
            refine LW.nil ?_; intro a_ ha_
            exact ⟨rfl, _, _, ha_, ⟨oa36, c37, rfl, s39, trivial⟩, e38.ke0, cx, b35, s3, s23, trivial⟩
          · exact ob_moveb (v := .pointer (some ⟨gp, 0, none⟩)) rfl (fun _ h_ => h_ _ _ rfl) rfl (fun _ _ _ => ⟨rfl, trivial⟩) (fun _ _ _ h_ => h_)
          · intro o_ L_ F_ lab_ w_ ho_ hL_ hw_ hcl_ hb_ hr_ hq_; obtain rfl := Option.some.inj (ho_ : some _ = some o_); obtain ⟨cx, b35, s3, s23, _⟩ := hq_
            have hLn6 : L_ 6 = false := by
              cases hx_ : L_ 6 with
              | false => rfl
              | true => have := hcl_ 6 2 (by kernel_rfl) hx_; rw [hL_] at this; cases this
            rw [hLn6, hL_] at b35
            replace b35 : Box lab_ w_ 2 gp 61 [.slice oa1 a0.L.length c2, .int .i64 y30.2.At] := b35
            obtain ⟨q42, hl20, rfl, _⟩ := hr_ 1 (by decide) (hw_ 1 (by kernel_rfl))
            replace hl20 : Gk.look F_ 20 = some (.pointer (some ⟨gp, 0, none⟩)) := hl20
            refine LW.call kFn_21 (c_coresecmake_Deck_Next hx_y43 cx.top b35 s3) wn rfl (evs_cons hl20 (evs_cons rfl evs_nil)) ?_
            rintro _ w44 ⟨rfl, e45, b47, _⟩; refine ⟨_, rfl, ?_⟩
            replace cx := cx.step e45 rfl
            replace s3 := s3.step e45
            replace s23 := s23.step e45
            clear b35
            refine LW.nil ?_; intro a_ ha_
            have b79 : ∀ l_ w_, Box l_ w_ 2 gp 61 [.slice oa1 a0.L.length c2, .int .i64 y43.2.At] → Box l_ w_ 2 gp 61 (cond (L_ 6) [.slice oa1 a0.L.length c2, .int .i64 y62.2.At] (cond (true) [.slice oa1 a0.L.length c2, .int .i64 y43.2.At] [.slice oa1 a0.L.length c2, .int .i64 y30.2.At])) := fun _ _ h_ => by rw [hLn6]; exact h_
            exact ⟨rfl, _, _, ha_, ⟨rfl, trivial⟩, (e45.ke rfl), cx, (b79 _ _ b47), s3, s23, trivial⟩
          · intro o_ L_ F_ lab_ w_ ho_ hL_ hw_ hcl_ hb_ hr_ hq_; obtain rfl := Option.some.inj (ho_ : some _ = some o_); obtain ⟨cx, b35, s3, s23, _⟩ := hq_
            obtain ⟨q51, hl19, oa48, c49, rfl, s50, _⟩ := hr_ 0 (by decide) (hw_ 0 (by kernel_rfl))
            replace hl19 : Gk.look F_ 19 = some (.slice oa48 ([0, 0, 1, 2]).length c49) := hl19
            obtain ⟨q52, hl21, rfl, _⟩ := hr_ 2 (by decide) (hw_ 2 (by kernel_rfl))
            replace hl21 : Gk.look F_ 21 = some (.int .i64 y43.1) := hl21
            refine LW.index (bnd_ret hx_x57) s50 kSl_23 wn rfl hl19 hl21 ?_; intro x_ p53 cs54 hx_ hr55 ha56; cases hx_
            obtain rfl : cs54 = [.int .i64 x57] := hr55
            refine LW.nil ?_; intro a_ ha_
            exact ⟨rfl, _, _, ha_, ⟨p53, rfl, ha56, trivial⟩, Ke.refl, cx, b35, s3, s23, trivial⟩
          · intro o_ L_ F_ lab_ w_ ho_ hL_ hw_ hcl_ hb_ hr_ hq_; obtain rfl := Option.some.inj (ho_ : some _ = some o_); obtain ⟨cx, b35, s3, s23, _⟩ := hq_
            obtain ⟨q60, hl22, p58, rfl, ha59, _⟩ := hr_ 3 (by decide) (hw_ 3 (by kernel_rfl))
            replace hl22 : Gk.look F_ 22 = some (.pointer (some p58)) := hl22
            refine LW.loadA1 (ha59.cell0 rfl) kOne_3 wn rfl hl22 ?_
            refine LW.nil ?_; intro a_ ha_
            exact ⟨rfl, _, _, ha_, ⟨rfl, trivial⟩, Ke.refl, cx, b35, s3, s23, trivial⟩
          · exact ob_moveb (v := .pointer (some ⟨gp, 0, none⟩)) rfl (fun _ h_ => h_ _ _ rfl) rfl (fun _ _ _ => ⟨rfl, trivial⟩) (fun _ _ _ h_ => h_)
          · intro o_ L_ F_ lab_ w_ ho_ hL_ hw_ hcl_ hb_ hr_ hq_; obtain rfl := Option.some.inj (ho_ : some _ = some o_); obtain ⟨cx, b35, s3, s23, _⟩ := hq_
            have hLp := hw_ 2 (by kernel_rfl)
            rw [hL_, hLp] at b35
            replace b35 : Box lab_ w_ 2 gp 61 [.slice oa1 a0.L.length c2, .int .i64 y43.2.At] := b35
            obtain ⟨q61, hl24, rfl, _⟩ := hr_ 5 (by decide) (hw_ 5 (by kernel_rfl))
            replace hl24 : Gk.look F_ 24 = some (.pointer (some ⟨gp, 0, none⟩)) := hl24
            refine LW.call kFn_21 (c_coresecmake_Deck_Next hx_y62 cx.top b35 s3) wn rfl (evs_cons hl24 (evs_cons rfl evs_nil)) ?_
            rintro _ w63 ⟨rfl, e64, b66, _⟩; refine ⟨_, rfl, ?_⟩
            replace cx := cx.step e64 rfl
            replace s3 := s3.step e64
            replace s23 := s23.step e64
            clear b35
            refine LW.nil ?_; intro a_ ha_
            have b81 : ∀ l_ w_, Box l_ w_ 2 gp 61 [.slice oa1 a0.L.length c2, .int .i64 y62.2.At] → Box l_ w_ 2 gp 61 (cond (true) [.slice oa1 a0.L.length c2, .int .i64 y62.2.At] (cond (L_ 2) [.slice oa1 a0.L.length c2, .int .i64 y43.2.At] [.slice oa1 a0.L.length c2, .int .i64 y30.2.At])) := fun _ _ h_ => by exact h_
            exact ⟨rfl, _, _, ha_, ⟨rfl, trivial⟩, (e64.ke rfl), cx, (b81 _ _ b66), s3, s23, trivial⟩
          · intro o_ L_ F_ lab_ w_ ho_ hL_ hw_ hcl_ hb_ hr_ hq_; obtain rfl := Option.some.inj (ho_ : some _ = some o_); obtain ⟨cx, b35, s3, s23, _⟩ := hq_
            obtain ⟨q67, hl25, rfl, _⟩ := hr_ 6 (by decide) (hw_ 6 (by kernel_rfl))
            replace hl25 : Gk.look F_ 25 = some (.int .i64 y62.1) := hl25
            refine LW.gtr (letm_eq hx_x68) wn rfl hl25 rfl ?_; intro x_ hx_; cases hx_
            refine LW.nil ?_; intro a_ ha_
            exact ⟨rfl, _, _, ha_, ⟨rfl, trivial⟩, Ke.refl, cx, b35, s3, s23, trivial⟩
          · exact ob_moveb (v := .int .i64 y30.1) rfl (fun _ h_ => h_ _ _ rfl) rfl (fun _ _ _ => ⟨rfl, trivial⟩) (fun _ _ _ h_ => h_)
          · intro o_ L_ F_ lab_ w_ ho_ hL_ hw_ hcl_ hb_ hr_ hq_; obtain rfl := Option.some.inj (ho_ : some _ = some o_); obtain ⟨cx, b35, s3, s23, _⟩ := hq_
            obtain ⟨q69, hl23, rfl, _⟩ := hr_ 4 (by decide) (hw_ 4 (by kernel_rfl))
            replace hl23 : Gk.look F_ 23 = some (.int .i64 x57) := hl23
            obtain ⟨q70, hl26, rfl, _⟩ := hr_ 7 (by decide) (hw_ 7 (by kernel_rfl))
            replace hl26 : Gk.look F_ 26 = some (.bool x68) := hl26
            obtain ⟨q71, hl27, rfl, _⟩ := hr_ 8 (by decide) (hw_ 8 (by kernel_rfl))
            replace hl27 : Gk.look F_ 27 = some (.int .i64 y30.1) := hl27
            refine LW.build (vs := [(0, .int .i64 x57), (1, .bool x68), (2, .int .i64 y30.1)]) (cs := [.int .i64 x57, .bool x68, .int .i64 y30.1]) (mp_cons hl23 (mp_cons hl26 (mp_cons hl27 mp_nil))) ((kBuilt_26 _).trans rfl) wn rfl ?_
            refine LW.nil ?_; intro a_ ha_
            exact ⟨rfl, _, _, ha_, ⟨rfl, trivial⟩, Ke.refl, cx, b35, s3, s23, trivial⟩
          · intro o_ L_ F_ lab_ w_ ho_ hL_ hw_ hcl_ hb_ hr_ hq_; obtain rfl := Option.some.inj (ho_ : some _ = some o_); obtain ⟨cx, b35, s3, s23, _⟩ := hq_
            refine LW.alloc 16 [.int .i64 0, .bool false, .int .i64 0] kZero_26 rfl cx.top wn rfl ?_
            intro g72 lab73 w74 e75 b76
            replace cx := cx.step e75 rfl
            replace b35 := b35.step e75 rfl
            replace s3 := s3.step e75
            replace s23 := s23.step e75
            refine LW.nil ?_; intro a_ ha_
            exact ⟨rfl, _, _, ha_, ⟨g72, rfl, b76, trivial⟩, e75.ke0, cx, b35, s3, s23, trivial⟩
        · intro F_ lab_ w_ hb_ hr_ hq_; obtain ⟨cx, b35, s3, s23, _⟩ := hq_
          replace b35 : Box lab_ w_ 2 gp 61 [.slice oa1 a0.L.length c2, .int .i64 y62.2.At] := b35
          obtain ⟨q83, hl28, rfl, _⟩ := hr_ 9 (by decide)
          obtain ⟨q86, hl6, g84, rfl, b85, _⟩ := hr_ 10 (by decide)
          refine LW.sub (G := [(0, .pointer (some ⟨gp, 0, none⟩)), (3, .slice oa21 x18.length c22), (4, .int .i64 x19), (5, .int .i64 y30.1), (28, .agg ([.int .i64 x57, .bool x68, .int .i64 y30.1] : List Value).toArray), (6, .pointer (some ⟨g84, 0, none⟩))]) ⟨hb_ 0 _ rfl, hb_ 3 _ rfl, hb_ 4 _ rfl, hb_ 5 _ rfl, hl28, hl6, trivial⟩ ?_
          simp only [List.drop_succ_cons, List.drop_zero]
          refine LW.storeBn [.int .i64 x57, .bool x68, .int .i64 y30.1] [.int .i64 x57, .bool x68, .int .i64 y30.1] b85 cx.top rfl kAgg_26 rfl rfl rfl rfl wn rfl rfl ?_
          intro w87 e88 b89; clear b85
          replace cx := cx.step e88 rfl
          replace b35 := b35.step e88 rfl
          replace s3 := s3.step e88
          replace s23 := s23.step e88
          clear e88
          refine LW.nil ?_
          refine EW.seq_n ?_
          refine CW.seq ?_
          obtain ⟨y91, hx_y91, hm_⟩ := bnd_some hm; clear hm; have hm := hm_; clear hm_
          obtain ⟨y97, hx_y97, hm_⟩ := bnd_some hm; clear hm; have hm := hm_; clear hm_
          obtain ⟨x103, hx_x103, hm_⟩ := letm_some hm; clear hm; have hm := hm_; clear hm_
          obtain ⟨y112, hx_y112, hm_⟩ := bnd_some hm; clear hm; have hm := hm_; clear hm_
          obtain ⟨x118, hx_x118, hm_⟩ := letm_some hm; clear hm; have hm := hm_; clear hm_
          obtain ⟨x120, hx_x120, hm_⟩ := bnd_some hm; clear hm; have hm := hm_; clear hm_
          obtain ⟨y123, hx_y123, hm_⟩ := bnd_some hm; clear hm; have hm := hm_; clear hm_
          obtain ⟨y131, hx_y131, hm_⟩ := bnd_some hm; clear hm; have hm := hm_; clear hm_
          obtain ⟨y148, hx_y148, hm_⟩ := bnd_some hm; clear hm; have hm := hm_; clear hm_
          refine CW.sub (G := [(0, .pointer (some ⟨gp, 0, none⟩)), (3, .slice oa21 x18.length c22), (4, .int .i64 x19), (5, .int .i64 y30.1), (6, .pointer (some ⟨g84, 0, none⟩))]) ⟨rfl, rfl, rfl, rfl, rfl, trivial⟩ ?_
          refine CW.drawL (fun i_ => if i_ = 2 then [2] else if i_ = 4 then [2] else if i_ = 9 then [2] else if i_ = 15 then [2] else []) (fun i_ => by (try dsimp only); (repeat' split) <;> rfl) kMix_ 25 (by kernel_rfl) cx.top ?_
          intro w202 e203
          replace cx := cx.step e203 rfl
          replace b35 := b35.step e203 rfl
          replace s3 := s3.step e203
          replace s23 := s23.step e203
          replace b89 := b89.step e203 rfl
          clear e203
          refine ⟨[(fun L_ lab_ w_ v_ => v_ = .slice oa21 x18.length c22 ∧ True),
    (fun L_ lab_ w_ v_ => v_ = .pointer (some ⟨gp, 0, none⟩) ∧ True),
    (fun L_ lab_ w_ v_ => v_ = .int .i64 y91.1 ∧ True),
    (fun L_ lab_ w_ v_ => v_ = .pointer (some ⟨gp, 0, none⟩) ∧ True),
    (fun L_ lab_ w_ v_ => v_ = .int .i64 y97.1 ∧ True),
    (fun L_ lab_ w_ v_ => v_ = .int .u8 (x103.toNat : Int) ∧ True),
    (fun L_ lab_ w_ v_ => ∃ (oa105 : Option Addr) (c106 : Nat), v_ = .slice oa105 ([x103]).length c106 ∧ SL Rep.u8 lab_ w_ oa105 c106 ([x103]) ∧ True),
    (fun L_ lab_ w_ v_ => v_ = .agg ([.int .i64 x57, .bool x68, .int .i64 y30.1] : List Value).toArray ∧ True),
    (fun L_ lab_ w_ v_ => v_ = .pointer (some ⟨gp, 0, none⟩) ∧ True),
    (fun L_ lab_ w_ v_ => v_ = .int .i64 y112.1 ∧ True),
    (fun L_ lab_ w_ v_ => v_ = .int .i64 y30.1 ∧ True),
    (fun L_ lab_ w_ v_ => v_ = .int .u64 (x118.toNat : Int) ∧ True),
    (fun L_ lab_ w_ v_ => v_ = .int .i64 x120 ∧ True),
    (fun L_ lab_ w_ v_ => ∃ (oa127 : Option Addr) (c128 : Nat), v_ = .slice oa127 y123.length c128 ∧ SL Rep.u8 lab_ w_ oa127 c128 y123 ∧ True),
    (fun L_ lab_ w_ v_ => v_ = .pointer (some ⟨gp, 0, none⟩) ∧ True),
    (fun L_ lab_ w_ v_ => v_ = .int .i64 y131.1 ∧ True),
    (fun L_ lab_ w_ v_ => ∃ (oa152 : Option Addr) (c153 : Nat) (oa155 : Option Addr) (c156 : Nat), v_ = .tuple [.slice oa152 y148.1.length c153, .slice oa155 y148.2.1.length c156, .bool y148.2.2.1, .int .i64 y148.2.2.2].toArray ∧ SL R_api_Partial lab_ w_ oa152 c153 y148.1 ∧ SL Rep.u8 lab_ w_ oa155 c156 y148.2.1 ∧ True),
    (fun L_ lab_ w_ v_ => ∃ (oa158 : Option Addr) (c159 : Nat) (oa161 : Option Addr) (c162 : Nat), v_ = .tuple [.slice oa158 y148.1.length c159, .slice oa161 y148.2.1.length c162, .bool y148.2.2.1, .int .i64 y148.2.2.2].toArray ∧ SL R_api_Partial lab_ w_ oa158 c159 y148.1 ∧ SL Rep.u8 lab_ w_ oa161 c162 y148.2.1 ∧ True),
    (fun L_ lab_ w_ v_ => ∃ (oa165 : Option Addr) (c166 : Nat), v_ = .slice oa165 y148.1.length c166 ∧ SL R_api_Partial lab_ w_ oa165 c166 y148.1 ∧ True),
    (fun L_ lab_ w_ v_ => ∃ (oa175 : Option Addr) (c176 : Nat), v_ = .slice oa175 y148.2.1.length c176 ∧ SL Rep.u8 lab_ w_ oa175 c176 y148.2.1 ∧ True),
    (fun L_ lab_ w_ v_ => v_ = .bool y148.2.2.1 ∧ True),
    (fun L_ lab_ w_ v_ => v_ = .int .i64 y148.2.2.2 ∧ True),
    (fun L_ lab_ w_ v_ => ∃ (oa193 : Option Addr) (c194 : Nat), v_ = .slice oa193 y148.1.length c194 ∧ SL R_api_Partial lab_ w_ oa193 c194 y148.1 ∧ True),
    (fun L_ lab_ w_ v_ => ∃ (oa197 : Option Addr) (c198 : Nat), v_ = .slice oa197 y148.2.1.length c198 ∧ SL Rep.u8 lab_ w_ oa197 c198 y148.2.1 ∧ True),
    (fun L_ lab_ w_ v_ => v_ = .bool y148.2.2.1 ∧ True)], (fun L_ lab_ w_ => Cx [gp] w lab w_ lab_ ∧ Box lab_ w_ 2 gp 61 (cond (L_ 15) [.slice oa1 a0.L.length c2, .int .i64 y131.2.At] (cond (L_ 9) [.slice oa1 a0.L.length c2, .int .i64 y112.2.At] (cond (L_ 4) [.slice oa1 a0.L.length c2, .int .i64 y97.2.At] (cond (L_ 2) [.slice oa1 a0.L.length c2, .int .i64 y91.2.At] [.slice oa1 a0.L.length c2, .int .i64 y62.2.At])))) ∧ SL Rep.i64 lab_ w_ oa1 c2 a0.L ∧ SL R_api_Partial lab_ w_ oa21 c22 x18 ∧ Box lab_ w_ 16 g84 26 [.int .i64 x57, .bool x68, .int .i64 y30.1] ∧ True), ?_, ⟨cx, b35, s3, s23, b89, trivial⟩, ?_, ?_⟩
          · exact ⟨by rintro i_ L_ lab_ w_ lab2_ w2_ v_ hne_ hd_ hk_ hp_ ⟨hv_, _⟩; exact ⟨hv_, trivial⟩, by rintro i_ L_ lab_ w_ lab2_ w2_ v_ hne_ hd_ hk_ hp_ ⟨hv_, _⟩; exact ⟨hv_, trivial⟩, by rintro i_ L_ lab_ w_ lab2_ w2_ v_ hne_ hd_ hk_ hp_ ⟨hv_, _⟩; exact ⟨hv_, trivial⟩, by rintro i_ L_ lab_ w_ lab2_ w2_ v_ hne_ hd_ hk_ hp_ ⟨hv_, _⟩; exact ⟨hv_, trivial⟩, by rintro i_ L_ lab_ w_ lab2_ w2_ v_ hne_ hd_ hk_ hp_ ⟨hv_, _⟩; exact ⟨hv_, trivial⟩, by rintro i_ L_ lab_ w_ lab2_ w2_ v_ hne_ hd_ hk_ hp_ ⟨hv_, _⟩; exact ⟨hv_, trivial⟩, by rintro i_ L_ lab_ w_ lab2_ w2_ v_ hne_ hd_ hk_ hp_ ⟨oa105, c106, hv_, s108, _⟩; exact ⟨oa105, c106, hv_, (s108.keep hp_), trivial⟩, by rintro i_ L_ lab_ w_ lab2_ w2_ v_ hne_ hd_ hk_ hp_ ⟨hv_, _⟩; exact ⟨hv_, trivial⟩, by rintro i_ L_ lab_ w_ lab2_ w2_ v_ hne_ hd_ hk_ hp_ ⟨hv_, _⟩; exact ⟨hv_, trivial⟩, by rintro i_ L_ lab_ w_ lab2_ w2_ v_ hne_ hd_ hk_ hp_ ⟨hv_, _⟩; exact ⟨hv_, trivial⟩, by rintro i_ L_ lab_ w_ lab2_ w2_ v_ hne_ hd_ hk_ hp_ ⟨hv_, _⟩; exact ⟨hv_, trivial⟩, by rintro i_ L_ lab_ w_ lab2_ w2_ v_ hne_ hd_ hk_ hp_ ⟨hv_, _⟩; exact ⟨hv_, trivial⟩, by rintro i_ L_ lab_ w_ lab2_ w2_ v_ hne_ hd_ hk_ hp_ ⟨hv_, _⟩; exact ⟨hv_, trivial⟩, by rintro i_ L_ lab_ w_ lab2_ w2_ v_ hne_ hd_ hk_ hp_ ⟨oa127, c128, hv_, s129, _⟩; exact ⟨oa127, c128, hv_, (s129.keep hp_), trivial⟩, by rintro i_ L_ lab_ w_ lab2_ w2_ v_ hne_ hd_ hk_ hp_ ⟨hv_, _⟩; exact ⟨hv_, trivial⟩, by rintro i_ L_ lab_ w_ lab2_ w2_ v_ hne_ hd_ hk_ hp_ ⟨hv_, _⟩; exact ⟨hv_, trivial⟩, by rintro i_ L_ lab_ w_ lab2_ w2_ v_ hne_ hd_ hk_ hp_ ⟨oa152, c153, oa155, c156, hv_, s154, s157, _⟩; exact ⟨oa152, c153, oa155, c156, hv_, (s154.keep hp_), (s157.keep hp_), trivial⟩, by rintro i_ L_ lab_ w_ lab2_ w2_ v_ hne_ hd_ hk_ hp_ ⟨oa158, c159, oa161, c162, hv_, s160, s163, _⟩; exact ⟨oa158, c159, oa161, c162, hv_, (s160.keep hp_), (s163.keep hp_), trivial⟩, by rintro i_ L_ lab_ w_ lab2_ w2_ v_ hne_ hd_ hk_ hp_ ⟨oa165, c166, hv_, s167, _⟩; exact ⟨oa165, c166, hv_, (s167.keep hp_), trivial⟩, by rintro i_ L_ lab_ w_ lab2_ w2_ v_ hne_ hd_ hk_ hp_ ⟨oa175, c176, hv_, s177, _⟩; exact ⟨oa175, c176, hv_, (s177.keep hp_), trivial⟩, by rintro i_ L_ lab_ w_ lab2_ w2_ v_ hne_ hd_ hk_ hp_ ⟨hv_, _⟩; exact ⟨hv_, trivial⟩, by rintro i_ L_ lab_ w_ lab2_ w2_ v_ hne_ hd_ hk_ hp_ ⟨hv_, _⟩; exact ⟨hv_, trivial⟩, by rintro i_ L_ lab_ w_ lab2_ w2_ v_ hne_ hd_ hk_ hp_ ⟨oa193, c194, hv_, s195, _⟩; exact ⟨oa193, c194, hv_, (s195.keep hp_), trivial⟩, by rintro i_ L_ lab_ w_ lab2_ w2_ v_ hne_ hd_ hk_ hp_ ⟨oa197, c198, hv_, s199, _⟩; exact ⟨oa197, c198, hv_, (s199.keep hp_), trivial⟩, by rintro i_ L_ lab_ w_ lab2_ w2_ v_ hne_ hd_ hk_ hp_ ⟨hv_, _⟩; exact ⟨hv_, trivial⟩, trivial⟩
          · refine (ob_succ (ob_succ (ob_succ (ob_succ (ob_succ (ob_succ (ob_succ (ob_succ (ob_succ (ob_succ (ob_succ (ob_succ (ob_succ (ob_succ (ob_succ (ob_succ (ob_succ (ob_succ (ob_succ (ob_succ (ob_succ (ob_succ (ob_succ (ob_succ (ob_succ ob_nil ?_) ?_) ?_) ?_) ?_) ?_) ?_) ?_) ?_) ?_) ?_) ?_) ?_) ?_) ?_) ?_) ?_) ?_) ?_) ?_) ?_) ?_) ?_) ?_) ?_)
            · exact ob_moveb (v := .slice oa21 x18.length c22) rfl (fun _ h_ => h_ _ _ rfl) rfl (fun _ _ _ => ⟨rfl, trivial⟩) (fun _ _ _ h_ => h_)
            · exact ob_moveb (v := .pointer (some ⟨gp, 0, none⟩)) rfl (fun _ h_ => h_ _ _ rfl) rfl (fun _ _ _ => ⟨rfl, trivial⟩) (fun _ _ _ h_ => h_)
            · intro o_ L_ F_ lab_ w_ ho_ hL_ hw_ hcl_ hb_ hr_ hq_; obtain rfl := Option.some.inj (ho_ : some _ = some o_); obtain ⟨cx, b35, s3, s23, b89, _⟩ := hq_
              have hLn4 : L_ 4 = false := by
                cases hx_ : L_ 4 with
                | false => rfl
                | true => have := hcl_ 4 2 (by kernel_rfl) hx_; rw [hL_] at this; cases this
              have hLn9 : L_ 9 = false := by
                cases hx_ : L_ 9 with
                | false => rfl
                | true => have := hcl_ 9 4 (by kernel_rfl) hx_; rw [hLn4] at this; cases this
              have hLn15 : L_ 15 = false := by
                cases hx_ : L_ 15 with
                | false => rfl
                | true => have := hcl_ 13 9 (by kernel_rfl) (hcl_ 15 13 (by kernel_rfl) hx_); rw [hLn9] at this; cases this
              rw [hLn15, hLn9, hLn4, hL_] at b35
              replace b35 : Box lab_ w_ 2 gp 61 [.slice oa1 a0.L.length c2, .int .i64 y62.2.At] := b35
              obtain ⟨q90, hl31, rfl, _⟩ := hr_ 1 (by decide) (hw_ 1 (by kernel_rfl))
              replace hl31 : Gk.look F_ 31 = some (.pointer (some ⟨gp, 0, none⟩)) := hl31
              refine LW.call kFn_21 (c_coresecmake_Deck_Next hx_y91 cx.top b35 s3) wn rfl (evs_cons hl31 (evs_cons rfl evs_nil)) ?_
              rintro _ w92 ⟨rfl, e93, b95, _⟩; refine ⟨_, rfl, ?_⟩
              replace cx := cx.step e93 rfl
              replace s3 := s3.step e93
              replace s23 := s23.step e93
              replace b89 := b89.step e93 rfl
              clear b35
              refine LW.nil ?_; intro a_ ha_
              have b204 : ∀ l_ w_, Box l_ w_ 2 gp 61 [.slice oa1 a0.L.length c2, .int .i64 y91.2.At] → Box l_ w_ 2 gp 61 (cond (L_ 15) [.slice oa1 a0.L.length c2, .int .i64 y131.2.At] (cond (L_ 9) [.slice oa1 a0.L.length c2, .int .i64 y112.2.At] (cond (L_ 4) [.slice oa1 a0.L.length c2, .int .i64 y97.2.At] (cond (true) [.slice oa1 a0.L.length c2, .int .i64 y91.2.At] [.slice oa1 a0.L.length c2, .int .i64 y62.2.At])))) := fun _ _ h_ => by rw [hLn15, hLn9, hLn4]; exact h_
              exact ⟨rfl, _, _, ha_, ⟨rfl, trivial⟩, (e93.ke rfl), cx, (b204 _ _ b95), s3, s23, b89, trivial⟩
            · exact ob_moveb (v := .pointer (some ⟨gp, 0, none⟩)) rfl (fun _ h_ => h_ _ _ rfl) rfl (fun _ _ _ => ⟨rfl, trivial⟩) (fun _ _ _ h_ => h_)
            · intro o_ L_ F_ lab_ w_ ho_ hL_ hw_ hcl_ hb_ hr_ hq_; obtain rfl := Option.some.inj (ho_ : some _ = some o_); obtain ⟨cx, b35, s3, s23, b89, _⟩ := hq_
              have hLp := hw_ 2 (by kernel_rfl)
              have hLn9 : L_ 9 = false := by
                cases hx_ : L_ 9 with
                | false => rfl
                | true => have := hcl_ 9 4 (by kernel_rfl) hx_; rw [hL_] at this; cases this
              have hLn15 : L_ 15 = false := by
                cases hx_ : L_ 15 with
                | false => rfl
                | true => have := hcl_ 13 9 (by kernel_rfl) (hcl_ 15 13 (by kernel_rfl) hx_); rw [hLn9] at this; cases this
              rw [hLn15, hLn9, hL_, hLp] at b35
              replace b35 : Box lab_ w_ 2 gp 61 [.slice oa1 a0.L.length c2, .int .i64 y91.2.At] := b35
              obtain ⟨q96, hl33, rfl, _⟩ := hr_ 3 (by decide) (hw_ 3 (by kernel_rfl))
              replace hl33 : Gk.look F_ 33 = some (.pointer (some ⟨gp, 0, none⟩)) := hl33
              refine LW.call kFn_21 (c_coresecmake_Deck_Next hx_y97 cx.top b35 s3) wn rfl (evs_cons hl33 (evs_cons rfl evs_nil)) ?_
              rintro _ w98 ⟨rfl, e99, b101, _⟩; refine ⟨_, rfl, ?_⟩
              replace cx := cx.step e99 rfl
              replace s3 := s3.step e99
              replace s23 := s23.step e99
              replace b89 := b89.step e99 rfl
              clear b35
              refine LW.nil ?_; intro a_ ha_
              have b206 : ∀ l_ w_, Box l_ w_ 2 gp 61 [.slice oa1 a0.L.length c2, .int .i64 y97.2.At] → Box l_ w_ 2 gp 61 (cond (L_ 15) [.slice oa1 a0.L.length c2, .int .i64 y131.2.At] (cond (L_ 9) [.slice oa1 a0.L.length c2, .int .i64 y112.2.At] (cond (true) [.slice oa1 a0.L.length c2, .int .i64 y97.2.At] (cond (L_ 2) [.slice oa1 a0.L.length c2, .int .i64 y91.2.At] [.slice oa1 a0.L.length c2, .int .i64 y62.2.At])))) := fun _ _ h_ => by rw [hLn15, hLn9]; exact h_
              exact ⟨rfl, _, _, ha_, ⟨rfl, trivial⟩, (e99.ke rfl), cx, (b206 _ _ b101), s3, s23, b89, trivial⟩
            · intro o_ L_ F_ lab_ w_ ho_ hL_ hw_ hcl_ hb_ hr_ hq_; obtain rfl := Option.some.inj (ho_ : some _ = some o_); obtain ⟨cx, b35, s3, s23, b89, _⟩ := hq_
              obtain ⟨q102, hl34, rfl, _⟩ := hr_ 4 (by decide) (hw_ 4 (by kernel_rfl))
              replace hl34 : Gk.look F_ 34 = some (.int .i64 y97.1) := hl34
              refine LW.cvt_u8 (letm_eq hx_x103) kIs_3 kInt_5 wn rfl hl34 ?_; intro x_ hx_; cases hx_
              refine LW.nil ?_; intro a_ ha_
              exact ⟨rfl, _, _, ha_, ⟨rfl, trivial⟩, Ke.refl, cx, b35, s3, s23, b89, trivial⟩
            · intro o_ L_ F_ lab_ w_ ho_ hL_ hw_ hcl_ hb_ hr_ hq_; obtain rfl := Option.some.inj (ho_ : some _ = some o_); obtain ⟨cx, b35, s3, s23, b89, _⟩ := hq_
              obtain ⟨q104, hl35, rfl, _⟩ := hr_ 5 (by decide) (hw_ 5 (by kernel_rfl))
              replace hl35 : Gk.look F_ 35 = some (.int .u8 (x103.toNat : Int)) := hl35
              refine LW.buildSlice (ρ := Rep.u8) (vs := [(0, .int .u8 (x103.toNat : Int))]) (css := [[.int .u8 (x103.toNat : Int)]]) (xs := [x103]) (mp_cons hl35 mp_nil) kSl_24 kZero_5 (by kernel_rfl) rfl rfl ⟨rfl, trivial⟩ cx.top wn rfl ?_
              intro oa105 c106 lab109 w110 e107 s108
              replace cx := cx.step e107 rfl
              replace b35 := b35.step e107 rfl
              replace s3 := s3.step e107
              replace s23 := s23.step e107
              replace b89 := b89.step e107 rfl
              refine LW.nil ?_; intro a_ ha_
              exact ⟨rfl, _, _, ha_, ⟨oa105, c106, rfl, s108, trivial⟩, e107.ke0, cx, b35, s3, s23, b89, trivial⟩
            · intro o_ L_ F_ lab_ w_ ho_ hL_ hw_ hcl_ hb_ hr_ hq_; obtain rfl := Option.some.inj (ho_ : some _ = some o_); obtain ⟨cx, b35, s3, s23, b89, _⟩ := hq_
              have hl6 := hb_ 6 _ rfl
              refine LW.loadBn [.int .i64 x57, .bool x68, .int .i64 y30.1] b89 kAgg_26 rfl rfl wn rfl hl6 ?_
              refine LW.nil ?_; intro a_ ha_
              exact ⟨rfl, _, _, ha_, ⟨rfl, trivial⟩, Ke.refl, cx, b35, s3, s23, b89, trivial⟩
            · exact ob_moveb (v := .pointer (some ⟨gp, 0, none⟩)) rfl (fun _ h_ => h_ _ _ rfl) rfl (fun _ _ _ => ⟨rfl, trivial⟩) (fun _ _ _ h_ => h_)
            · intro o_ L_ F_ lab_ w_ ho_ hL_ hw_ hcl_ hb_ hr_ hq_; obtain rfl := Option.some.inj (ho_ : some _ = some o_); obtain ⟨cx, b35, s3, s23, b89, _⟩ := hq_
              have hLp := hw_ 4 (by kernel_rfl)
              have hLn15 : L_ 15 = false := by
                cases hx_ : L_ 15 with
                | false => rfl
                | true => have := hcl_ 13 9 (by kernel_rfl) (hcl_ 15 13 (by kernel_rfl) hx_); rw [hL_] at this; cases this
              rw [hLn15, hL_, hLp] at b35
              replace b35 : Box lab_ w_ 2 gp 61 [.slice oa1 a0.L.length c2, .int .i64 y97.2.At] := b35
              obtain ⟨q111, hl38, rfl, _⟩ := hr_ 8 (by decide) (hw_ 8 (by kernel_rfl))
              replace hl38 : Gk.look F_ 38 = some (.pointer (some ⟨gp, 0, none⟩)) := hl38
              refine LW.call kFn_21 (c_coresecmake_Deck_Next hx_y112 cx.top b35 s3) wn rfl (evs_cons hl38 (evs_cons rfl evs_nil)) ?_
              rintro _ w113 ⟨rfl, e114, b116, _⟩; refine ⟨_, rfl, ?_⟩
              replace cx := cx.step e114 rfl
              replace s3 := s3.step e114
              replace s23 := s23.step e114
              replace b89 := b89.step e114 rfl
              clear b35
              refine LW.nil ?_; intro a_ ha_
              have b208 : ∀ l_ w_, Box l_ w_ 2 gp 61 [.slice oa1 a0.L.length c2, .int .i64 y112.2.At] → Box l_ w_ 2 gp 61 (cond (L_ 15) [.slice oa1 a0.L.length c2, .int .i64 y131.2.At] (cond (true) [.slice oa1 a0.L.length c2, .int .i64 y112.2.At] (cond (L_ 4) [.slice oa1 a0.L.length c2, .int .i64 y97.2.At] (cond (L_ 2) [.slice oa1 a0.L.length c2, .int .i64 y91.2.At] [.slice oa1 a0.L.length c2, .int .i64 y62.2.At])))) := fun _ _ h_ => by rw [hLn15]; exact h_
              exact ⟨rfl, _, _, ha_, ⟨rfl, trivial⟩, (e114.ke rfl), cx, (b208 _ _ b116), s3, s23, b89, trivial⟩
            · exact ob_moveb (v := .int .i64 y30.1) rfl (fun _ h_ => h_ _ _ rfl) rfl (fun _ _ _ => ⟨rfl, trivial⟩) (fun _ _ _ h_ => h_)
            · intro o_ L_ F_ lab_ w_ ho_ hL_ hw_ hcl_ hb_ hr_ hq_; obtain rfl := Option.some.inj (ho_ : some _ = some o_); obtain ⟨cx, b35, s3, s23, b89, _⟩ := hq_
              obtain ⟨q117, hl40, rfl, _⟩ := hr_ 10 (by decide) (hw_ 10 (by kernel_rfl))
              replace hl40 : Gk.look F_ 40 = some (.int .i64 y30.1) := hl40
              refine LW.cvt_u64 (letm_eq hx_x118) kIs_3 kInt_37 wn rfl hl40 ?_; intro x_ hx_; cases hx_
              refine LW.nil ?_; intro a_ ha_
              exact ⟨rfl, _, _, ha_, ⟨rfl, trivial⟩, Ke.refl, cx, b35, s3, s23, b89, trivial⟩
            · intro o_ L_ F_ lab_ w_ ho_ hL_ hw_ hcl_ hb_ hr_ hq_; obtain rfl := Option.some.inj (ho_ : some _ = some o_); obtain ⟨cx, b35, s3, s23, b89, _⟩ := hq_
              obtain ⟨q119, hl41, rfl, _⟩ := hr_ 11 (by decide) (hw_ 11 (by kernel_rfl))
              replace hl41 : Gk.look F_ 41 = some (.int .u64 (x118.toNat : Int)) := hl41
              refine LW.shl (bnd_ret hx_x120) wn rfl rfl hl41 ?_; intro x_ hx_; cases hx_
              refine LW.nil ?_; intro a_ ha_
              exact ⟨rfl, _, _, ha_, ⟨rfl, trivial⟩, Ke.refl, cx, b35, s3, s23, b89, trivial⟩
            · intro o_ L_ F_ lab_ w_ ho_ hL_ hw_ hcl_ hb_ hr_ hq_; obtain rfl := Option.some.inj (ho_ : some _ = some o_); obtain ⟨cx, b35, s3, s23, b89, _⟩ := hq_
              obtain ⟨q121, hl39, rfl, _⟩ := hr_ 9 (by decide) (hw_ 9 (by kernel_rfl))
              replace hl39 : Gk.look F_ 39 = some (.int .i64 y112.1) := hl39
              obtain ⟨q122, hl42, rfl, _⟩ := hr_ 12 (by decide) (hw_ 12 (by kernel_rfl))
              replace hl42 : Gk.look F_ 42 = some (.int .i64 x120) := hl42
              refine LW.call kFn_16 (c_coresecmake_Some hx_y123 cx.top) wn rfl (evs_cons hl39 (evs_cons hl42 evs_nil)) ?_
              rintro _ w124 ⟨oa127, c128, rfl, e125, s129, _⟩; refine ⟨_, rfl, ?_⟩
              replace cx := cx.step e125 rfl
              replace b35 := b35.step e125 rfl
              replace s3 := s3.step e125
              replace s23 := s23.step e125
              replace b89 := b89.step e125 rfl
              refine LW.nil ?_; intro a_ ha_
              exact ⟨rfl, _, _, ha_, ⟨oa127, c128, rfl, s129, trivial⟩, e125.ke0, cx, b35, s3, s23, b89, trivial⟩
            · exact ob_moveb (v := .pointer (some ⟨gp, 0, none⟩)) rfl (fun _ h_ => h_ _ _ rfl) rfl (fun _ _ _ => ⟨rfl, trivial⟩) (fun _ _ _ h_ => h_)
            · intro o_ L_ F_ lab_ w_ ho_ hL_ hw_ hcl_ hb_ hr_ hq_; obtain rfl := Option.some.inj (ho_ : some _ = some o_); obtain ⟨cx, b35, s3, s23, b89, _⟩ := hq_
              have hLp := hcl_ 13 9 (by kernel_rfl) (hw_ 13 (by kernel_rfl))
              rw [hL_, hLp] at b35
              replace b35 : Box lab_ w_ 2 gp 61 [.slice oa1 a0.L.length c2, .int .i64 y112.2.At] := b35
              obtain ⟨q130, hl44, rfl, _⟩ := hr_ 14 (by decide) (hw_ 14 (by kernel_rfl))
              replace hl44 : Gk.look F_ 44 = some (.pointer (some ⟨gp, 0, none⟩)) := hl44
              refine LW.call kFn_21 (c_coresecmake_Deck_Next hx_y131 cx.top b35 s3) wn rfl (evs_cons hl44 (evs_cons rfl evs_nil)) ?_
              rintro _ w132 ⟨rfl, e133, b135, _⟩; refine ⟨_, rfl, ?_⟩
              replace cx := cx.step e133 rfl
              replace s3 := s3.step e133
              replace s23 := s23.step e133
              replace b89 := b89.step e133 rfl
              clear b35
              refine LW.nil ?_; intro a_ ha_
              have b210 : ∀ l_ w_, Box l_ w_ 2 gp 61 [.slice oa1 a0.L.length c2, .int .i64 y131.2.At] → Box l_ w_ 2 gp 61 (cond (true) [.slice oa1 a0.L.length c2, .int .i64 y131.2.At] (cond (L_ 9) [.slice oa1 a0.L.length c2, .int .i64 y112.2.At] (cond (L_ 4) [.slice oa1 a0.L.length c2, .int .i64 y97.2.At] (cond (L_ 2) [.slice oa1 a0.L.length c2, .int .i64 y91.2.At] [.slice oa1 a0.L.length c2, .int .i64 y62.2.At])))) := fun _ _ h_ => by exact h_
              exact ⟨rfl, _, _, ha_, ⟨rfl, trivial⟩, (e133.ke rfl), cx, (b210 _ _ b135), s3, s23, b89, trivial⟩
            · intro o_ L_ F_ lab_ w_ ho_ hL_ hw_ hcl_ hb_ hr_ hq_; obtain rfl := Option.some.inj (ho_ : some _ = some o_); obtain ⟨cx, b35, s3, s23, b89, _⟩ := hq_
              obtain ⟨q136, hl30, rfl, _⟩ := hr_ 0 (by decide) (hw_ 0 (by kernel_rfl))
              replace hl30 : Gk.look F_ 30 = some (.slice oa21 x18.length c22) := hl30
              obtain ⟨q137, hl32, rfl, _⟩ := hr_ 2 (by decide) (hw_ 2 (by kernel_rfl))
              replace hl32 : Gk.look F_ 32 = some (.int .i64 y91.1) := hl32
              obtain ⟨q141, hl36, oa138, c139, rfl, s140, _⟩ := hr_ 6 (by decide) (hw_ 6 (by kernel_rfl))
              replace hl36 : Gk.look F_ 36 = some (.slice oa138 ([x103]).length c139) := hl36
              obtain ⟨q142, hl37, rfl, _⟩ := hr_ 7 (by decide) (hw_ 7 (by kernel_rfl))
              replace hl37 : Gk.look F_ 37 = some (.agg ([.int .i64 x57, .bool x68, .int .i64 y30.1] : List Value).toArray) := hl37
              obtain ⟨q146, hl43, oa143, c144, rfl, s145, _⟩ := hr_ 13 (by decide) (hw_ 13 (by kernel_rfl))
              replace hl43 : Gk.look F_ 43 = some (.slice oa143 y123.length c144) := hl43
              obtain ⟨q147, hl45, rfl, _⟩ := hr_ 15 (by decide) (hw_ 15 (by kernel_rfl))
              replace hl45 : Gk.look F_ 45 = some (.int .i64 y131.1) := hl45
              refine LW.call kFn_18 (c_coresecref18_Put hx_y148 cx.top s23 s140 s145) wn rfl (evs_cons hl30 (evs_cons hl32 (evs_cons hl36 (evs_cons hl37 (evs_cons hl43 (evs_cons hl45 evs_nil)))))) ?_
              rintro _ w149 ⟨oa152, c153, oa155, c156, rfl, e150, s154, s157, _⟩; refine ⟨_, rfl, ?_⟩
              replace cx := cx.step e150 rfl
              replace b35 := b35.step e150 rfl
              replace s3 := s3.step e150
              replace s23 := s23.step e150
              replace b89 := b89.step e150 rfl
              replace s140 := s140.step e150
              replace s145 := s145.step e150
              refine LW.nil ?_; intro a_ ha_
              exact ⟨rfl, _, _, ha_, ⟨oa152, c153, oa155, c156, rfl, s154, s157, trivial⟩, e150.ke0, cx, b35, s3, s23, b89, trivial⟩
            · intro o_ L_ F_ lab_ w_ ho_ hL_ hw_ hcl_ hb_ hr_ hq_; obtain rfl := Option.some.inj (ho_ : some _ = some o_); obtain ⟨cx, b35, s3, s23, b89, _⟩ := hq_
              obtain ⟨q164, hl46, oa158, c159, oa161, c162, rfl, s160, s163, _⟩ := hr_ 16 (by decide) (hw_ 16 (by kernel_rfl))
              replace hl46 : Gk.look F_ 46 = some (.tuple [.slice oa158 y148.1.length c159, .slice oa161 y148.2.1.length c162, .bool y148.2.2.1, .int .i64 y148.2.2.2].toArray) := hl46
              refine LW.move wn rfl hl46 ?_
              refine LW.nil ?_; intro a_ ha_
              exact ⟨rfl, _, _, ha_, ⟨oa158, c159, oa161, c162, rfl, s160, s163, trivial⟩, Ke.refl, cx, b35, s3, s23, b89, trivial⟩
            · intro o_ L_ F_ lab_ w_ ho_ hL_ hw_ hcl_ hb_ hr_ hq_; obtain rfl := Option.some.inj (ho_ : some _ = some o_); obtain ⟨cx, b35, s3, s23, b89, _⟩ := hq_
              obtain ⟨q171, hl29, oa165, c166, oa168, c169, rfl, s167, s170, _⟩ := hr_ 17 (by decide) (hw_ 17 (by kernel_rfl))
              replace hl29 : Gk.look F_ 29 = some (.tuple [.slice oa165 y148.1.length c166, .slice oa168 y148.2.1.length c169, .bool y148.2.2.1, .int .i64 y148.2.2.2].toArray) := hl29
              refine LW.extract wn rfl hl29 rfl ?_
              refine LW.nil ?_; intro a_ ha_
              exact ⟨rfl, _, _, ha_, ⟨oa165, c166, rfl, s167, trivial⟩, Ke.refl, cx, b35, s3, s23, b89, trivial⟩
            · intro o_ L_ F_ lab_ w_ ho_ hL_ hw_ hcl_ hb_ hr_ hq_; obtain rfl := Option.some.inj (ho_ : some _ = some o_); obtain ⟨cx, b35, s3, s23, b89, _⟩ := hq_
              obtain ⟨q178, hl29, oa172, c173, oa175, c176, rfl, s174, s177, _⟩ := hr_ 17 (by decide) (hw_ 17 (by kernel_rfl))
              replace hl29 : Gk.look F_ 29 = some (.tuple [.slice oa172 y148.1.length c173, .slice oa175 y148.2.1.length c176, .bool y148.2.2.1, .int .i64 y148.2.2.2].toArray) := hl29
              refine LW.extract wn rfl hl29 rfl ?_
              refine LW.nil ?_; intro a_ ha_
              exact ⟨rfl, _, _, ha_, ⟨oa175, c176, rfl, s177, trivial⟩, Ke.refl, cx, b35, s3, s23, b89, trivial⟩
            · intro o_ L_ F_ lab_ w_ ho_ hL_ hw_ hcl_ hb_ hr_ hq_; obtain rfl := Option.some.inj (ho_ : some _ = some o_); obtain ⟨cx, b35, s3, s23, b89, _⟩ := hq_
              obtain ⟨q185, hl29, oa179, c180, oa182, c183, rfl, s181, s184, _⟩ := hr_ 17 (by decide) (hw_ 17 (by kernel_rfl))
              replace hl29 : Gk.look F_ 29 = some (.tuple [.slice oa179 y148.1.length c180, .slice oa182 y148.2.1.length c183, .bool y148.2.2.1, .int .i64 y148.2.2.2].toArray) := hl29
              refine LW.extract wn rfl hl29 rfl ?_
              refine LW.nil ?_; intro a_ ha_
              exact ⟨rfl, _, _, ha_, ⟨rfl, trivial⟩, Ke.refl, cx, b35, s3, s23, b89, trivial⟩
            · intro o_ L_ F_ lab_ w_ ho_ hL_ hw_ hcl_ hb_ hr_ hq_; obtain rfl := Option.some.inj (ho_ : some _ = some o_); obtain ⟨cx, b35, s3, s23, b89, _⟩ := hq_
              obtain ⟨q192, hl29, oa186, c187, oa189, c190, rfl, s188, s191, _⟩ := hr_ 17 (by decide) (hw_ 17 (by kernel_rfl))
              replace hl29 : Gk.look F_ 29 = some (.tuple [.slice oa186 y148.1.length c187, .slice oa189 y148.2.1.length c190, .bool y148.2.2.1, .int .i64 y148.2.2.2].toArray) := hl29
              refine LW.extract wn rfl hl29 rfl ?_
              refine LW.nil ?_; intro a_ ha_
              exact ⟨rfl, _, _, ha_, ⟨rfl, trivial⟩, Ke.refl, cx, b35, s3, s23, b89, trivial⟩
            · intro o_ L_ F_ lab_ w_ ho_ hL_ hw_ hcl_ hb_ hr_ hq_; obtain rfl := Option.some.inj (ho_ : some _ = some o_); obtain ⟨cx, b35, s3, s23, b89, _⟩ := hq_
              obtain ⟨q196, hl47, oa193, c194, rfl, s195, _⟩ := hr_ 18 (by decide) (hw_ 18 (by kernel_rfl))
              replace hl47 : Gk.look F_ 47 = some (.slice oa193 y148.1.length c194) := hl47
              refine LW.assign wn rfl hl47 ?_
              refine LW.nil ?_; intro a_ ha_
              exact ⟨rfl, _, _, ha_, ⟨oa193, c194, rfl, s195, trivial⟩, Ke.refl, cx, b35, s3, s23, b89, trivial⟩
            · intro o_ L_ F_ lab_ w_ ho_ hL_ hw_ hcl_ hb_ hr_ hq_; obtain rfl := Option.some.inj (ho_ : some _ = some o_); obtain ⟨cx, b35, s3, s23, b89, _⟩ := hq_
              obtain ⟨q200, hl48, oa197, c198, rfl, s199, _⟩ := hr_ 19 (by decide) (hw_ 19 (by kernel_rfl))
              replace hl48 : Gk.look F_ 48 = some (.slice oa197 y148.2.1.length c198) := hl48
              refine LW.assign wn rfl hl48 ?_
              refine LW.nil ?_; intro a_ ha_
              exact ⟨rfl, _, _, ha_, ⟨oa197, c198, rfl, s199, trivial⟩, Ke.refl, cx, b35, s3, s23, b89, trivial⟩
            · intro o_ L_ F_ lab_ w_ ho_ hL_ hw_ hcl_ hb_ hr_ hq_; obtain rfl := Option.some.inj (ho_ : some _ = some o_); obtain ⟨cx, b35, s3, s23, b89, _⟩ := hq_
              obtain ⟨q201, hl49, rfl, _⟩ := hr_ 20 (by decide) (hw_ 20 (by kernel_rfl))
              replace hl49 : Gk.look F_ 49 = some (.bool y148.2.2.1) := hl49
              refine LW.assign wn rfl hl49 ?_
              refine LW.nil ?_; intro a_ ha_
              exact ⟨rfl, _, _, ha_, ⟨rfl, trivial⟩, Ke.refl, cx, b35, s3, s23, b89, trivial⟩
          · intro F_ lab_ w_ hb_ hr_ hq_; obtain ⟨cx, b35, s3, s23, b89, _⟩ := hq_
            replace b35 : Box lab_ w_ 2 gp 61 [.slice oa1 a0.L.length c2, .int .i64 y131.2.At] := b35
            obtain ⟨q212, hl50, rfl, _⟩ := hr_ 21 (by decide)
            obtain ⟨q216, hl7, oa213, c214, rfl, s215, _⟩ := hr_ 22 (by decide)
            refine LW.sub (G := [(0, .pointer (some ⟨gp, 0, none⟩)), (3, .slice oa21 x18.length c22), (4, .int .i64 x19), (5, .int .i64 y30.1), (6, .pointer (some ⟨g84, 0, none⟩)), (50, .int .i64 y148.2.2.2), (7, .slice oa213 y148.1.length c214)]) ⟨hb_ 0 _ rfl, hb_ 3 _ rfl, hb_ 4 _ rfl, hb_ 5 _ rfl, hb_ 6 _ rfl, hl50, hl7, trivial⟩ ?_
            simp only [List.drop_succ_cons, List.drop_zero]
            refine LW.assign wn rfl rfl ?_
            refine LW.nil ?_
            refine EW.seq_n ?_
            refine CW.seq ?_
            refine CW.region ?_
            refine LW.move wn rfl rfl ?_
            refine LW.eql hm wn rfl rfl rfl ?_; clear hm; intro x217 hm
            refine LW.nil ?_
            refine EW.seq_n ?_
            refine CW.cond (b := x217) rfl (fun hb218 => ?_) (fun hb218 => ?_)
            · replace hm := cond_t hm hb218
              refine CW.region ?_
              refine LW.move wn rfl rfl ?_
              refine LW.assign wn rfl rfl ?_
              refine LW.nil ?_
              refine EW.block_n ?_
              refine EW.seq_n ?_
              refine CW.region ?_
              refine LW.move wn rfl rfl ?_
              refine LW.sub' hm wn rfl rfl rfl ?_; clear hm; intro x219 hm
              refine LW.assign wn rfl rfl ?_
              refine LW.nil ?_
              refine EW.sub (G := [(0, .pointer (some ⟨gp, 0, none⟩)), (3, .slice oa213 y148.1.length c214), (4, .int .i64 x219)]) ⟨rfl, rfl, rfl, trivial⟩ ?_
              exact EW.join_n ⟨_, Nat.lt_succ_self _, _, _, _, (S_coresecmake_Deck.mk a0.L y131.2.At), oa213, c214, rfl, cx, b35, s3, s215, hm⟩
            · replace hm := cond_f hm hb218
              refine CW.skip ?_
              refine EW.block_n ?_
              refine EW.seq_n ?_
              refine CW.region ?_
              refine LW.move wn rfl rfl ?_
              refine LW.sub' hm wn rfl rfl rfl ?_; clear hm; intro x220 hm
              refine LW.assign wn rfl rfl ?_
              refine LW.nil ?_
              refine EW.sub (G := [(0, .pointer (some ⟨gp, 0, none⟩)), (3, .slice oa21 x18.length c22), (4, .int .i64 x220)]) ⟨rfl, rfl, rfl, trivial⟩ ?_
              exact EW.join_n ⟨_, Nat.lt_succ_self _, _, _, _, (S_coresecmake_Deck.mk a0.L y131.2.At), oa21, c22, rfl, cx, b35, s3, s23, hm⟩
      · replace hm := cond_f hm hb29
        refine CW.exit ?_
        refine EW.seq_x ?_
        refine EW.join_x ?_
        refine EW.block_x ?_
        obtain rfl := Option.some.inj hm
        refine EW.sub (G := [(0, .pointer (some ⟨gp, 0, none⟩)), (3, .slice oa21 x18.length c22)]) ⟨rfl, rfl, trivial⟩ ?_
        exact EW.join_n ⟨_, oa21, c22, rfl, cx, b24, s3, s23, trivial⟩
  · rintro _ w16 ⟨lab17, oa12, c13, rfl, cx, b15, s3, s14, _⟩
    have hm := hm_; clear hm_
    refine EW.seq_n ?_
    refine CW.seq ?_
    refine CW.region ?_
    refine LW.move wn rfl rfl ?_
    refine LW.assign wn rfl rfl ?_
    refine LW.nil ?_
    refine EW.seq_n ?_
    refine CW.ret ?_
    obtain rfl := Option.some.inj hm
    exact EW.ret1 rfl rfl ⟨oa12, c13, rfl, (cx.steP t b0 hk), (b15.outP b0), (s14.keep (cx.keepsP t b15)), trivial⟩
end Go.Proofs.Ytaefnnamjphieaa
