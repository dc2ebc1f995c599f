/-
  Package block: models of its functions, and that the functions compute them. No condition but that the model has a value.
-/
import Derived.Test.YtaefnnamjphieaaPBlockA
namespace Go.Proofs.Ytaefnnamjphieaa
open Go.Gk Go.RowKit
set_option linter.unusedVariables false in
def m_block_kept_l1 (a1 : Int) (a2 : List UInt8) (a3 : Bool) (a4 : Int) : List S_api_Partial → Nat → (List S_api_Partial) → Option ((List S_api_Partial))
    | [], k21, x14 => some (x14)
    | x23 :: rem22, k21, x14 => bnd (letm (decide (x23.Until ≤ a4)) fun x46 =>
  (cond x46 (some (true))
   ((cond a3 (letm (x23.Peer == a1) fun x51 =>
  (cond x51 (bnd (m_bytes_Equal x23.Key a2) fun y54 =>
  some (y54))
   (some (false))))
   (some (false))))) : Option (Bool)) fun y42 =>
  (cond y42 (m_block_kept_l1 a1 a2 a3 a4 rem22 (k21 + 1) x14)
   (bnd (m_bytes_Clone x23.Key) fun y62 =>
  bnd (m_bytes_Clone x23.Data) fun y71 =>
  bnd (app x14 ([(S_api_Partial.mk x23.Peer y62 y71 x23.Until)])) fun x101 =>
  m_block_kept_l1 a1 a2 a3 a4 rem22 (k21 + 1) x101))
set_option linter.unusedVariables false in
def m_block_kept (a0 : List S_api_Partial) (a1 : Int) (a2 : List UInt8) (a3 : Bool) (a4 : Int) : Option ((List S_api_Partial)) :=
  bnd (m_block_kept_l1 a1 a2 a3 a4 a0 0 ([]) : Option ((List S_api_Partial))) fun y7 =>
  some y7
set_option maxRecDepth 100000 in
set_option maxHeartbeats 2000000 in
theorem c_block_kept {lab : Lab} {w : World} {a0 : List S_api_Partial} {a1 : Int} {a2 : List UInt8} {a3 : Bool} {a4 : Int} {r : (List S_api_Partial)} (hm : m_block_kept a0 a1 a2 a3 a4 = some r) (t : Top lab w) {oa1 : Option Addr} {c2 : Nat} (s3 : SL R_api_Partial lab w oa1 c2 a0) {oa4 : Option Addr} {c5 : Nat} (s6 : SL Rep.u8 lab w oa4 c5 a2) : Calls Try.prog 32 [.slice oa1 a0.length c2, .int .i64 a1, .slice oa4 a2.length c5, .bool a3, .int .i64 a4].toArray w (fun e w' => ∃ (oa0_0 : Option Addr) (c0_0 : Nat), e = .returned (.slice oa0_0 r.length c0_0) ∧ Ste lab 0 w lab w' ∧ SL R_api_Partial lab w' oa0_0 c0_0 r ∧ True) := by
  refine enter Try.func32 rfl 53 rfl rfl ?_
  have cx := Cx.start t
  replace s3 := s3.keep Keeps.lin
  replace s6 := s6.keep Keeps.lin
  refine CW.sub (G := [(0, .slice oa1 a0.length c2), (1, .int .i64 a1), (2, .slice oa4 a2.length c5), (3, .bool a3), (4, .int .i64 a4)]) ⟨rfl, rfl, rfl, rfl, rfl, trivial⟩ ?_
  unfold m_block_kept at hm
  refine CW.seq ?_
  refine CW.region ?_
  refine LW.assign wn rfl rfl ?_
  refine LW.nil ?_
  refine EW.seq_n ?_
  refine CW.seq ?_
  refine CW.region ?_
  refine LW.assign wn rfl rfl ?_
  refine LW.nil ?_
  refine EW.seq_n ?_
  refine CW.seq ?_
  refine CW.seq ?_
  refine CW.region ?_
  refine LW.move wn rfl rfl ?_
  refine LW.len kUnd_22 wn rfl rfl ?_
  refine LW.move wn rfl rfl ?_
  refine LW.nil ?_
  refine EW.seq_n ?_
  obtain ⟨y7, h8, hm_⟩ := bnd_some hm; clear hm
  refine CW.join_any (fun F_ w12 => ∃ (lab13 : Lab) (oa9 : Option Addr) (c10 : Nat), F_ = [(11, .slice oa9 y7.length c10)] ∧ Cx [] w lab w12 lab13 ∧ Own R_api_Partial lab13 w12 21 63 oa9 c10 y7 ∧ True) ?_ ?_
  · have hm := h8; clear h8
    refine CW.block ?_
    refine CW.sub (G := [(1, .int .i64 a1), (2, .slice oa4 a2.length c5), (3, .bool a3), (4, .int .i64 a4), (11, .slice none ([] : List S_api_Partial).length 0), (14, .slice oa1 a0.length c2), (15, .int .i64 (a0.length : Int)), (16, .int .i64 0)]) ⟨rfl, rfl, rfl, rfl, rfl, rfl, rfl, rfl, trivial⟩ ?_
    refine CW.loop (fun n20 F_ w18 => ∃ (lab19 : Lab) (k21 : Nat) (rem22 : List S_api_Partial) (x14 : List S_api_Partial) (oa15 : Option Addr) (c16 : Nat), n20 = rem22.length ∧ a0.drop k21 = rem22 ∧ F_ = [(1, .int .i64 a1), (2, .slice oa4 a2.length c5), (3, .bool a3), (4, .int .i64 a4), (11, .slice oa15 x14.length c16), (14, .slice oa1 a0.length c2), (15, .int .i64 (a0.length : Int)), (16, .int .i64 ((k21 : Nat) : Int))] ∧ Cx [] w lab w18 lab19 ∧ SL Rep.u8 lab19 w18 oa4 c5 a2 ∧ Own R_api_Partial lab19 w18 21 63 oa15 c16 x14 ∧ SL R_api_Partial lab19 w18 oa1 c2 a0 ∧ m_block_kept_l1 a1 a2 a3 a4 rem22 k21 x14 = some y7) _ ⟨_, 0, a0, _, none, 0, rfl, rfl, rfl, cx, s6, Own.nil, s3, hm⟩ ?_
    rintro n20 _ w18 ⟨lab19, k21, rem22, x14, oa15, c16, rfl, hd, rfl, cx, s6, o17, s3, hm⟩
    rcases rem22 with _ | ⟨x23, rem22⟩
    · rw [m_block_kept_l1] at hm; have hlt := drop_nil hd
      refine CW.seq ?_
      refine CW.region ?_
      refine LW.lss_lit hlt wn rfl rfl rfl ?_
      refine LW.nil ?_
      refine EW.seq_n ?_
      refine CW.seq ?_
      refine CW.cond_f rfl ?_
      refine CW.exit ?_
      refine EW.seq_x ?_
      refine EW.join_x ?_
      refine EW.block_x ?_
      obtain rfl := Option.some.inj hm
      refine EW.sub (G := [(11, .slice oa15 x14.length c16)]) ⟨rfl, trivial⟩ ?_
      exact EW.join_n ⟨_, oa15, c16, rfl, cx, o17, trivial⟩
    · rw [m_block_kept_l1] at hm; obtain ⟨hlt, hix, hd, hlt2⟩ := drop_cons hd
      refine CW.seq ?_
      refine CW.region ?_
      refine LW.lss_lit hlt wn rfl rfl rfl ?_
      refine LW.nil ?_
      refine EW.seq_n ?_
      refine CW.seq ?_
      refine CW.cond_t rfl ?_
      refine CW.skip ?_
      refine EW.seq_n ?_
      refine CW.seq ?_
      refine CW.block ?_
      refine CW.seq ?_
      refine CW.region ?_
      refine LW.index (bnd_ret hix) s3 kSl_22 wn rfl rfl rfl ?_; intro x_ p24 cs25 hx_ hr26 ha27; cases hx_
      obtain ⟨oa28, c29, oa31, c32, rfl, s30, s33, _⟩ := hr26
      refine LW.loadAn ha27 kAgg_63 rfl wn rfl rfl ?_
      refine LW.alloc 23 [.int .i64 0, .slice none 0 0, .slice none 0 0, .int .i64 0] kZero_63 rfl cx.top wn rfl ?_
      intro g34 lab35 w36 e37 b38
      replace cx := cx.step e37 rfl
      replace s6 := s6.step e37
      replace o17 := o17.step e37 rfl
      replace s3 := s3.step e37
      replace ha27 := ha27.step e37
      replace s30 := s30.step e37
      replace s33 := s33.step e37
      clear e37
      refine LW.storeBn [.int .i64 x23.Peer, .slice oa28 x23.Key.length c29, .slice oa31 x23.Data.length c32, .int .i64 x23.Until] [.int .i64 x23.Peer, .slice oa28 x23.Key.length c29, .slice oa31 x23.Data.length c32, .int .i64 x23.Until] b38 cx.top rfl kAgg_63 rfl rfl rfl rfl wn rfl rfl ?_
      intro w39 e40 b41; clear b38
      replace cx := cx.step e40 rfl
      replace s6 := s6.step e40
      replace o17 := o17.step e40 rfl
      replace s30 := s30.step e40
      replace s33 := s33.step e40
      replace s3 := s3.step e40
      replace ha27 := ha27.step e40
      clear e40
      refine LW.nil ?_
      refine EW.seq_n ?_
      refine CW.seq ?_
      refine CW.seq ?_
      obtain ⟨y42, h43, hm_⟩ := bnd_some hm; clear hm
      refine CW.join_any (fun F_ w44 => ∃ (lab45 : Lab) , F_ = [(1, .int .i64 a1), (2, .slice oa4 a2.length c5), (3, .bool a3), (4, .int .i64 a4), (11, .slice oa15 x14.length c16), (13, .pointer (some ⟨g34, 0, none⟩)), (14, .slice oa1 a0.length c2), (15, .int .i64 (a0.length : Int)), (16, .int .i64 ((k21 : Nat) : Int)), (38, .bool y42)] ∧ Cx [] w lab w44 lab45 ∧ SL Rep.u8 lab45 w44 oa4 c5 a2 ∧ Own R_api_Partial lab45 w44 21 63 oa15 c16 x14 ∧ Box lab45 w44 23 g34 63 [.int .i64 x23.Peer, .slice oa28 x23.Key.length c29, .slice oa31 x23.Data.length c32, .int .i64 x23.Until] ∧ SL Rep.u8 lab45 w44 oa28 c29 x23.Key ∧ SL Rep.u8 lab45 w44 oa31 c32 x23.Data ∧ SL R_api_Partial lab45 w44 oa1 c2 a0 ∧ True) ?_ ?_
      · have hm := h43; clear h43
        refine CW.region ?_
        refine LW.fldB 3 kFld_63_3 rfl wn rfl rfl ?_
        refine LW.loadB1 b41 kOne_3 rfl wn rfl rfl ?_
        refine LW.move wn rfl rfl ?_
        refine LW.leq hm wn rfl rfl rfl ?_; clear hm; intro x46 hm
        refine LW.move wn rfl rfl ?_
        rcases Bool.eq_false_or_eq_true x46 with hb48 | hb48
        · replace hm := cond_t hm hb48
          refine LW.skip 24 rfl (bk rfl hb48) rfl rfl ?_
          refine LW.skip 24 rfl (bk rfl hb48) rfl rfl ?_
          refine LW.skipU 26 rfl rfl rfl ?_
          refine LW.skipU 26 rfl rfl rfl ?_
          refine LW.skipU 26 rfl rfl rfl ?_
          refine LW.skipU 26 rfl rfl rfl ?_
          refine LW.skip 24 rfl (bk rfl hb48) rfl rfl ?_
          refine LW.skip 24 rfl (bk rfl hb48) rfl rfl ?_
          refine LW.skipU 32 rfl rfl rfl ?_
          refine LW.skipU 32 rfl rfl rfl ?_
          refine LW.skipU 32 rfl rfl rfl ?_
          refine LW.skipU 32 rfl rfl rfl ?_
          refine LW.skip 24 rfl (bk rfl hb48) rfl rfl ?_
          refine LW.pick_t wn rfl (bk rfl hb48) rfl ?_
          refine LW.nil ?_
          obtain rfl := Option.some.inj hm
          refine EW.sub (G := [(1, .int .i64 a1), (2, .slice oa4 a2.length c5), (3, .bool a3), (4, .int .i64 a4), (11, .slice oa15 x14.length c16), (13, .pointer (some ⟨g34, 0, none⟩)), (14, .slice oa1 a0.length c2), (15, .int .i64 (a0.length : Int)), (16, .int .i64 ((k21 : Nat) : Int)), (38, .bool true)]) ⟨rfl, rfl, rfl, rfl, rfl, rfl, rfl, rfl, rfl, rfl, trivial⟩ ?_
          exact EW.join_n ⟨_, rfl, cx, s6, o17, b41, s30, s33, s3, trivial⟩
        · replace hm := cond_f hm hb48
          refine LW.move (ws 24 rfl (bk rfl hb48)) rfl rfl ?_
          refine LW.move (ws 24 rfl (bk rfl hb48)) rfl rfl ?_
          rcases Bool.eq_false_or_eq_true a3 with hb50 | hb50
          · replace hm := cond_t hm hb50
            refine LW.fldB 0 kFld_63_0 rfl (ws 26 rfl (bk rfl hb50)) rfl rfl ?_
            refine LW.loadB1 b41 kOne_3 rfl (ws 26 rfl (bk rfl hb50)) rfl rfl ?_
            refine LW.move (ws 26 rfl (bk rfl hb50)) rfl rfl ?_
            refine LW.eql hm (ws 26 rfl (bk rfl hb50)) rfl rfl rfl ?_; clear hm; intro x51 hm
            refine LW.pick_t (ws 24 rfl (bk rfl hb48)) rfl (bk rfl hb50) rfl ?_
            refine LW.move (ws 24 rfl (bk rfl hb48)) rfl rfl ?_
            rcases Bool.eq_false_or_eq_true x51 with hb53 | hb53
            · replace hm := cond_t hm hb53
              refine LW.fldB 1 kFld_63_1 rfl (ws 32 rfl (bk rfl hb53)) rfl rfl ?_
              refine LW.loadB1 b41 kOne_24 rfl (ws 32 rfl (bk rfl hb53)) rfl rfl ?_
              refine LW.move (ws 32 rfl (bk rfl hb53)) rfl rfl ?_
              obtain ⟨y54, h58, hm_⟩ := bnd_some hm; clear hm; have hm := hm_; clear hm_
              refine LW.call kFn_40 (c_bytes_Equal h58 cx.top s30 s6) (ws 32 rfl (bk rfl hb53)) rfl rfl ?_
              rintro _ w55 ⟨rfl, e56, _⟩; refine ⟨_, rfl, ?_⟩
              replace cx := cx.step e56 rfl
              replace s6 := s6.step e56
              replace o17 := o17.step e56 rfl
              replace b41 := b41.step e56 rfl
              replace s30 := s30.step e56
              replace s33 := s33.step e56
              replace s3 := s3.step e56
              clear e56
              refine LW.pick_t (ws 24 rfl (bk rfl hb48)) rfl (bk rfl hb53) rfl ?_
              refine LW.pick_f wn rfl (bk rfl hb48) rfl ?_
              refine LW.nil ?_
              obtain rfl := Option.some.inj hm
              refine EW.sub (G := [(1, .int .i64 a1), (2, .slice oa4 a2.length c5), (3, .bool a3), (4, .int .i64 a4), (11, .slice oa15 x14.length c16), (13, .pointer (some ⟨g34, 0, none⟩)), (14, .slice oa1 a0.length c2), (15, .int .i64 (a0.length : Int)), (16, .int .i64 ((k21 : Nat) : Int)), (38, .bool y54)]) ⟨rfl, rfl, rfl, rfl, rfl, rfl, rfl, rfl, rfl, rfl, trivial⟩ ?_
              exact EW.join_n ⟨_, rfl, cx, s6, o17, b41, s30, s33, s3, trivial⟩
            · replace hm := cond_f hm hb53
              refine LW.skip 32 rfl (bk rfl hb53) rfl rfl ?_
              refine LW.skip 32 rfl (bk rfl hb53) rfl rfl ?_
              refine LW.skip 32 rfl (bk rfl hb53) rfl rfl ?_
              refine LW.skip 32 rfl (bk rfl hb53) rfl rfl ?_
              refine LW.pick_f (ws 24 rfl (bk rfl hb48)) rfl (bk rfl hb53) rfl ?_
              refine LW.pick_f wn rfl (bk rfl hb48) rfl ?_
              refine LW.nil ?_
              obtain rfl := Option.some.inj hm
              refine EW.sub (G := [(1, .int .i64 a1), (2, .slice oa4 a2.length c5), (3, .bool a3), (4, .int .i64 a4), (11, .slice oa15 x14.length c16), (13, .pointer (some ⟨g34, 0, none⟩)), (14, .slice oa1 a0.length c2), (15, .int .i64 (a0.length : Int)), (16, .int .i64 ((k21 : Nat) : Int)), (38, .bool false)]) ⟨rfl, rfl, rfl, rfl, rfl, rfl, rfl, rfl, rfl, rfl, trivial⟩ ?_
              exact EW.join_n ⟨_, rfl, cx, s6, o17, b41, s30, s33, s3, trivial⟩
          · replace hm := cond_f hm hb50
            refine LW.skip 26 rfl (bk rfl hb50) rfl rfl ?_
            refine LW.skip 26 rfl (bk rfl hb50) rfl rfl ?_
            refine LW.skip 26 rfl (bk rfl hb50) rfl rfl ?_
            refine LW.skip 26 rfl (bk rfl hb50) rfl rfl ?_
            refine LW.pick_f (ws 24 rfl (bk rfl hb48)) rfl (bk rfl hb50) rfl ?_
            refine LW.move (ws 24 rfl (bk rfl hb48)) rfl rfl ?_
            refine LW.skip 32 rfl rfl rfl rfl ?_
            refine LW.skip 32 rfl rfl rfl rfl ?_
            refine LW.skip 32 rfl rfl rfl rfl ?_
            refine LW.skip 32 rfl rfl rfl rfl ?_
            refine LW.pick_f (ws 24 rfl (bk rfl hb48)) rfl rfl rfl ?_
            refine LW.pick_f wn rfl (bk rfl hb48) rfl ?_
            refine LW.nil ?_
            obtain rfl := Option.some.inj hm
            refine EW.sub (G := [(1, .int .i64 a1), (2, .slice oa4 a2.length c5), (3, .bool a3), (4, .int .i64 a4), (11, .slice oa15 x14.length c16), (13, .pointer (some ⟨g34, 0, none⟩)), (14, .slice oa1 a0.length c2), (15, .int .i64 (a0.length : Int)), (16, .int .i64 ((k21 : Nat) : Int)), (38, .bool false)]) ⟨rfl, rfl, rfl, rfl, rfl, rfl, rfl, rfl, rfl, rfl, trivial⟩ ?_
            exact EW.join_n ⟨_, rfl, cx, s6, o17, b41, s30, s33, s3, trivial⟩
      · rintro _ w44 ⟨lab45, rfl, cx, s6, o17, b41, s30, s33, s3, _⟩
        have hm := hm_; clear hm_
        refine EW.seq_n ?_
        refine CW.cond (b := y42) rfl (fun hb59 => ?_) (fun hb59 => ?_)
        · replace hm := cond_t hm hb59
          refine CW.exit ?_
          refine EW.seq_x ?_
          refine EW.block_x ?_
          refine EW.seq_n ?_
          refine CW.region ?_
          refine LW.add_lit (w64_succ hlt2 s3.le) wn rfl rfl rfl ?_
          refine LW.move wn rfl rfl ?_
          refine LW.nil ?_
          refine EW.sub (G := [(1, .int .i64 a1), (2, .slice oa4 a2.length c5), (3, .bool a3), (4, .int .i64 a4), (11, .slice oa15 x14.length c16), (14, .slice oa1 a0.length c2), (15, .int .i64 (a0.length : Int)), (16, .int .i64 ((k21 + 1 : Nat) : Int))]) ⟨rfl, rfl, rfl, rfl, rfl, rfl, rfl, rfl, trivial⟩ ?_
          exact EW.join_n ⟨_, Nat.lt_succ_self _, _, k21 + 1, rem22, _, oa15, c16, rfl, hd, rfl, cx, s6, o17, s3, hm⟩
        · replace hm := cond_f hm hb59
          refine CW.skip ?_
          refine EW.seq_n ?_
          refine CW.seq ?_
          obtain ⟨y62, hx_y62, hm_⟩ := bnd_some hm; clear hm; have hm := hm_; clear hm_
          obtain ⟨y71, hx_y71, hm_⟩ := bnd_some hm; clear hm; have hm := hm_; clear hm_
          refine CW.sub (G := [(1, .int .i64 a1), (2, .slice oa4 a2.length c5), (3, .bool a3), (4, .int .i64 a4), (11, .slice oa15 x14.length c16), (13, .pointer (some ⟨g34, 0, none⟩)), (14, .slice oa1 a0.length c2), (15, .int .i64 (a0.length : Int)), (16, .int .i64 ((k21 : Nat) : Int))]) ⟨rfl, rfl, rfl, rfl, rfl, rfl, rfl, rfl, rfl, trivial⟩ ?_
          refine CW.drawL (fun i_ => []) (fun i_ => by (try dsimp only); (repeat' split) <;> rfl) kMix_ 7 (by kernel_rfl) cx.top ?_
          intro w78 e79
          replace cx := cx.step e79 rfl
          replace s6 := s6.step e79
          replace o17 := o17.step e79 rfl
          replace b41 := b41.step e79 rfl
          replace s30 := s30.step e79
          replace s33 := s33.step e79
          replace s3 := s3.step e79
          clear e79
          refine ⟨[(fun L_ lab_ w_ v_ => v_ = .pointer (some ⟨g34, 1, none⟩) ∧ True),
    (fun L_ lab_ w_ v_ => v_ = .slice oa28 x23.Key.length c29 ∧ True),
    (fun L_ lab_ w_ v_ => ∃ (oa66 : Option Addr) (c67 : Nat), v_ = .slice oa66 y62.length c67 ∧ SL Rep.u8 lab_ w_ oa66 c67 y62 ∧ True),
    (fun L_ lab_ w_ v_ => v_ = .pointer (some ⟨g34, 2, none⟩) ∧ True),
    (fun L_ lab_ w_ v_ => v_ = .slice oa31 x23.Data.length c32 ∧ True),
    (fun L_ lab_ w_ v_ => ∃ (oa75 : Option Addr) (c76 : Nat), v_ = .slice oa75 y71.length c76 ∧ SL Rep.u8 lab_ w_ oa75 c76 y71 ∧ True),
    (fun L_ lab_ w_ v_ => v_ = .pointer (some ⟨g34, 1, none⟩) ∧ True)], (fun L_ lab_ w_ => Cx [] w lab w_ lab_ ∧ SL Rep.u8 lab_ w_ oa4 c5 a2 ∧ Own R_api_Partial lab_ w_ 21 63 oa15 c16 x14 ∧ Box lab_ w_ 23 g34 63 [.int .i64 x23.Peer, .slice oa28 x23.Key.length c29, .slice oa31 x23.Data.length c32, .int .i64 x23.Until] ∧ SL Rep.u8 lab_ w_ oa28 c29 x23.Key ∧ SL Rep.u8 lab_ w_ oa31 c32 x23.Data ∧ SL R_api_Partial lab_ w_ oa1 c2 a0 ∧ True), ?_, ⟨cx, s6, o17, b41, s30, s33, s3, trivial⟩, ?_, ?_⟩
          · exact ⟨by rintro i_ L_ lab_ w_ lab2_ w2_ v_ hne_ hd_ hk_ hp_ ⟨hv_, _⟩; exact ⟨hv_, trivial⟩, by rintro i_ L_ lab_ w_ lab2_ w2_ v_ hne_ hd_ hk_ hp_ ⟨hv_, _⟩; exact ⟨hv_, trivial⟩, by rintro i_ L_ lab_ w_ lab2_ w2_ v_ hne_ hd_ hk_ hp_ ⟨oa66, c67, hv_, s68, _⟩; exact ⟨oa66, c67, hv_, (s68.keep hp_), trivial⟩, by rintro i_ L_ lab_ w_ lab2_ w2_ v_ hne_ hd_ hk_ hp_ ⟨hv_, _⟩; exact ⟨hv_, trivial⟩, by rintro i_ L_ lab_ w_ lab2_ w2_ v_ hne_ hd_ hk_ hp_ ⟨hv_, _⟩; exact ⟨hv_, trivial⟩, by rintro i_ L_ lab_ w_ lab2_ w2_ v_ hne_ hd_ hk_ hp_ ⟨oa75, c76, hv_, s77, _⟩; exact ⟨oa75, c76, hv_, (s77.keep hp_), trivial⟩, by rintro i_ L_ lab_ w_ lab2_ w2_ v_ hne_ hd_ hk_ hp_ ⟨hv_, _⟩; exact ⟨hv_, trivial⟩, trivial⟩
          · refine (ob_succ (ob_succ (ob_succ (ob_succ (ob_succ (ob_succ (ob_succ ob_nil ?_) ?_) ?_) ?_) ?_) ?_) ?_)
            · intro o_ L_ F_ lab_ w_ ho_ hL_ hw_ hcl_ hb_ hr_ hq_; obtain rfl := Option.some.inj (ho_ : some _ = some o_); obtain ⟨cx, s6, o17, b41, s30, s33, s3, _⟩ := hq_
              have hl13 := hb_ 13 _ rfl
              refine LW.fldB 1 kFld_63_1 rfl wn rfl hl13 ?_
              refine LW.nil ?_; intro a_ ha_
              exact ⟨rfl, _, _, ha_, ⟨rfl, trivial⟩, Ke.refl, cx, s6, o17, b41, s30, s33, s3, trivial⟩
            · intro o_ L_ F_ lab_ w_ ho_ hL_ hw_ hcl_ hb_ hr_ hq_; obtain rfl := Option.some.inj (ho_ : some _ = some o_); obtain ⟨cx, s6, o17, b41, s30, s33, s3, _⟩ := hq_
              obtain ⟨q60, hl39, rfl, _⟩ := hr_ 0 (by decide) (hw_ 0 (by kernel_rfl))
              replace hl39 : Gk.look F_ 39 = some (.pointer (some ⟨g34, 1, none⟩)) := hl39
              refine LW.loadB1 b41 kOne_24 rfl wn rfl hl39 ?_
              refine LW.nil ?_; intro a_ ha_
              exact ⟨rfl, _, _, ha_, ⟨rfl, trivial⟩, Ke.refl, cx, s6, o17, b41, s30, s33, s3, trivial⟩
            · intro o_ L_ F_ lab_ w_ ho_ hL_ hw_ hcl_ hb_ hr_ hq_; obtain rfl := Option.some.inj (ho_ : some _ = some o_); obtain ⟨cx, s6, o17, b41, s30, s33, s3, _⟩ := hq_
              obtain ⟨q61, hl40, rfl, _⟩ := hr_ 1 (by decide) (hw_ 1 (by kernel_rfl))
              replace hl40 : Gk.look F_ 40 = some (.slice oa28 x23.Key.length c29) := hl40
              refine LW.call kFn_33 (c_bytes_Clone hx_y62 cx.top s30) wn rfl (evs_cons hl40 evs_nil) ?_
              rintro _ w63 ⟨oa66, c67, rfl, e64, s68, _⟩; refine ⟨_, rfl, ?_⟩
              replace cx := cx.step e64 rfl
              replace s6 := s6.step e64
              replace o17 := o17.step e64 rfl
              replace b41 := b41.step e64 rfl
              replace s30 := s30.step e64
              replace s33 := s33.step e64
              replace s3 := s3.step e64
              refine LW.nil ?_; intro a_ ha_
              exact ⟨rfl, _, _, ha_, ⟨oa66, c67, rfl, s68, trivial⟩, e64.ke0, cx, s6, o17, b41, s30, s33, s3, trivial⟩
            · intro o_ L_ F_ lab_ w_ ho_ hL_ hw_ hcl_ hb_ hr_ hq_; obtain rfl := Option.some.inj (ho_ : some _ = some o_); obtain ⟨cx, s6, o17, b41, s30, s33, s3, _⟩ := hq_
              have hl13 := hb_ 13 _ rfl
              refine LW.fldB 2 kFld_63_2 rfl wn rfl hl13 ?_
              refine LW.nil ?_; intro a_ ha_
              exact ⟨rfl, _, _, ha_, ⟨rfl, trivial⟩, Ke.refl, cx, s6, o17, b41, s30, s33, s3, trivial⟩
            · intro o_ L_ F_ lab_ w_ ho_ hL_ hw_ hcl_ hb_ hr_ hq_; obtain rfl := Option.some.inj (ho_ : some _ = some o_); obtain ⟨cx, s6, o17, b41, s30, s33, s3, _⟩ := hq_
              obtain ⟨q69, hl42, rfl, _⟩ := hr_ 3 (by decide) (hw_ 3 (by kernel_rfl))
              replace hl42 : Gk.look F_ 42 = some (.pointer (some ⟨g34, 2, none⟩)) := hl42
              refine LW.loadB1 b41 kOne_24 rfl wn rfl hl42 ?_
              refine LW.nil ?_; intro a_ ha_
              exact ⟨rfl, _, _, ha_, ⟨rfl, trivial⟩, Ke.refl, cx, s6, o17, b41, s30, s33, s3, trivial⟩
            · intro o_ L_ F_ lab_ w_ ho_ hL_ hw_ hcl_ hb_ hr_ hq_; obtain rfl := Option.some.inj (ho_ : some _ = some o_); obtain ⟨cx, s6, o17, b41, s30, s33, s3, _⟩ := hq_
              obtain ⟨q70, hl43, rfl, _⟩ := hr_ 4 (by decide) (hw_ 4 (by kernel_rfl))
              replace hl43 : Gk.look F_ 43 = some (.slice oa31 x23.Data.length c32) := hl43
              refine LW.call kFn_33 (c_bytes_Clone hx_y71 cx.top s33) wn rfl (evs_cons hl43 evs_nil) ?_
              rintro _ w72 ⟨oa75, c76, rfl, e73, s77, _⟩; refine ⟨_, rfl, ?_⟩
              replace cx := cx.step e73 rfl
              replace s6 := s6.step e73
              replace o17 := o17.step e73 rfl
              replace b41 := b41.step e73 rfl
              replace s30 := s30.step e73
              replace s33 := s33.step e73
              replace s3 := s3.step e73
              refine LW.nil ?_; intro a_ ha_
              exact ⟨rfl, _, _, ha_, ⟨oa75, c76, rfl, s77, trivial⟩, e73.ke0, cx, s6, o17, b41, s30, s33, s3, trivial⟩
            · intro o_ L_ F_ lab_ w_ ho_ hL_ hw_ hcl_ hb_ hr_ hq_; obtain rfl := Option.some.inj (ho_ : some _ = some o_); obtain ⟨cx, s6, o17, b41, s30, s33, s3, _⟩ := hq_
              have hl13 := hb_ 13 _ rfl
              refine LW.fldB 1 kFld_63_1 rfl wn rfl hl13 ?_
              refine LW.nil ?_; intro a_ ha_
              exact ⟨rfl, _, _, ha_, ⟨rfl, trivial⟩, Ke.refl, cx, s6, o17, b41, s30, s33, s3, trivial⟩
          · intro F_ lab_ w_ hb_ hr_ hq_; obtain ⟨cx, s6, o17, b41, s30, s33, s3, _⟩ := hq_
            obtain ⟨q83, hl41, oa80, c81, rfl, s82, _⟩ := hr_ 2 (by decide)
            obtain ⟨q87, hl44, oa84, c85, rfl, s86, _⟩ := hr_ 5 (by decide)
            obtain ⟨q88, hl45, rfl, _⟩ := hr_ 6 (by decide)
            refine LW.sub (G := [(1, .int .i64 a1), (2, .slice oa4 a2.length c5), (3, .bool a3), (4, .int .i64 a4), (11, .slice oa15 x14.length c16), (13, .pointer (some ⟨g34, 0, none⟩)), (14, .slice oa1 a0.length c2), (15, .int .i64 (a0.length : Int)), (16, .int .i64 ((k21 : Nat) : Int)), (41, .slice oa80 y62.length c81), (44, .slice oa84 y71.length c85), (45, .pointer (some ⟨g34, 1, none⟩))]) ⟨hb_ 1 _ rfl, hb_ 2 _ rfl, hb_ 3 _ rfl, hb_ 4 _ rfl, hb_ 11 _ rfl, hb_ 13 _ rfl, hb_ 14 _ rfl, hb_ 15 _ rfl, hb_ 16 _ rfl, hl41, hl44, hl45, trivial⟩ ?_
            simp only [List.drop_succ_cons, List.drop_zero]
            refine LW.storeB1 [.int .i64 x23.Peer, .slice oa80 y62.length c81, .slice oa31 x23.Data.length c32, .int .i64 x23.Until] b41 cx.top rfl kOne_24 rfl rfl rfl rfl wn rfl rfl ?_
            intro w89 e90 b91; clear b41
            replace cx := cx.step e90 rfl
            replace s6 := s6.step e90
            replace o17 := o17.step e90 rfl
            replace s82 := s82.step e90
            replace s33 := s33.step e90
            replace s3 := s3.step e90
            replace s86 := s86.step e90
            clear e90
            refine LW.fldB 2 kFld_63_2 rfl wn rfl rfl ?_
            refine LW.storeB1 [.int .i64 x23.Peer, .slice oa80 y62.length c81, .slice oa84 y71.length c85, .int .i64 x23.Until] b91 cx.top rfl kOne_24 rfl rfl rfl rfl wn rfl rfl ?_
            intro w92 e93 b94; clear b91
            replace cx := cx.step e93 rfl
            replace s6 := s6.step e93
            replace o17 := o17.step e93 rfl
            replace s82 := s82.step e93
            replace s86 := s86.step e93
            replace s3 := s3.step e93
            clear e93
            refine LW.nil ?_
            refine EW.seq_n ?_
            refine CW.region ?_
            refine LW.move wn rfl rfl ?_
            refine LW.loadBn [.int .i64 x23.Peer, .slice oa80 y62.length c81, .slice oa84 y71.length c85, .int .i64 x23.Until] b94 kAgg_63 rfl rfl wn rfl rfl ?_
            refine LW.buildSlice (ρ := R_api_Partial) (vs := [(0, .agg ([.int .i64 x23.Peer, .slice oa80 y62.length c81, .slice oa84 y71.length c85, .int .i64 x23.Until] : List Value).toArray)]) (css := [[.int .i64 x23.Peer, .slice oa80 y62.length c81, .slice oa84 y71.length c85, .int .i64 x23.Until]]) (xs := [(S_api_Partial.mk x23.Peer y62 y71 x23.Until)]) rfl kSl_22 kZero_63 (by kernel_rfl) rfl rfl ⟨⟨_, _, _, _, rfl, s82, s86, trivial⟩, trivial⟩ cx.top wn rfl ?_
            intro oa95 c96 lab99 w100 e97 s98
            replace cx := cx.step e97 rfl
            replace s6 := s6.step e97
            replace o17 := o17.step e97 rfl
            replace b94 := b94.step e97 rfl
            replace s82 := s82.step e97
            replace s86 := s86.step e97
            replace s3 := s3.step e97
            clear e97
            refine LW.append (ρ := R_api_Partial) (xs := x14) (ys := [(S_api_Partial.mk x23.Peer y62 y71 x23.Until)]) hm o17 (SL.flat' (lab := _) (c := c96) s98) cx.top rfl kSl_22 rfl wn rfl rfl rfl ?_; clear hm; intro x101 oa102 c103 lab104 w105 hm e106 o107
            replace cx := cx.step e106 rfl
            replace s6 := s6.step e106
            replace b94 := b94.step e106 rfl
            replace s82 := s82.step e106
            replace s86 := s86.step e106
            replace s3 := s3.step e106
            replace s98 := s98.step e106
            clear e106
            refine LW.assign wn rfl rfl ?_
            refine LW.nil ?_
            refine EW.block_n ?_
            refine EW.seq_n ?_
            refine CW.region ?_
            refine LW.add_lit (w64_succ hlt2 s3.le) wn rfl rfl rfl ?_
            refine LW.move wn rfl rfl ?_
            refine LW.nil ?_
            refine EW.sub (G := [(1, .int .i64 a1), (2, .slice oa4 a2.length c5), (3, .bool a3), (4, .int .i64 a4), (11, .slice oa102 x101.length c103), (14, .slice oa1 a0.length c2), (15, .int .i64 (a0.length : Int)), (16, .int .i64 ((k21 + 1 : Nat) : Int))]) ⟨rfl, rfl, rfl, rfl, rfl, rfl, rfl, rfl, trivial⟩ ?_
            exact EW.join_n ⟨_, Nat.lt_succ_self _, _, k21 + 1, rem22, _, oa102, c103, rfl, hd, rfl, cx, s6, o107, s3, hm⟩
  · rintro _ w12 ⟨lab13, oa9, c10, rfl, cx, o11, _⟩
    have hm := hm_; clear hm_
    refine EW.seq_n ?_
    refine CW.seq ?_
    refine CW.region ?_
    refine LW.move wn rfl rfl ?_
    refine LW.assign wn rfl rfl ?_
    refine LW.nil ?_
    refine EW.seq_n ?_
    refine CW.ret ?_
    obtain rfl := Option.some.inj hm
    exact EW.ret1 rfl rfl ⟨oa9, c10, rfl, (cx.ste t), (o11.sl (cx.keeps t) (cx.own0 t rfl)), trivial⟩
set_option maxRecDepth 100000 in
set_option maxHeartbeats 2000000 in
theorem co_block_kept {lab : Lab} {w : World} {a0 : List S_api_Partial} {a1 : Int} {a2 : List UInt8} {a3 : Bool} {a4 : Int} {r : (List S_api_Partial)} {k : Nat} (hm : m_block_kept a0 a1 a2 a3 a4 = some r) (t : Top lab w) {oa1 : Option Addr} {c2 : Nat} (s3 : SL R_api_Partial lab w oa1 c2 a0) {oa4 : Option Addr} {c5 : Nat} (s6 : SL Rep.u8 lab w oa4 c5 a2) : Calls Try.prog 32 [.slice oa1 a0.length c2, .int .i64 a1, .slice oa4 a2.length c5, .bool a3, .int .i64 a4].toArray w (fun e w' => ∃ (lab' : Lab) (oa0_ : Option Addr) (c0_ : Nat), e = .returned (.slice oa0_ r.length c0_) ∧ Ste lab 0 w lab' w' ∧ Own R_api_Partial lab' w' k 63 oa0_ c0_ r ∧ True) := by
  refine enter Try.func32 rfl 53 rfl rfl ?_
  have cx := Cx.start t
  replace s3 := s3.keep Keeps.lin
  replace s6 := s6.keep Keeps.lin
  refine CW.sub (G := [(0, .slice oa1 a0.length c2), (1, .int .i64 a1), (2, .slice oa4 a2.length c5), (3, .bool a3), (4, .int .i64 a4)]) ⟨rfl, rfl, rfl, rfl, rfl, trivial⟩ ?_
  unfold m_block_kept at hm
  refine CW.seq ?_
  refine CW.region ?_
  refine LW.assign wn rfl rfl ?_
  refine LW.nil ?_
  refine EW.seq_n ?_
  refine CW.seq ?_
  refine CW.region ?_
  refine LW.assign wn rfl rfl ?_
  refine LW.nil ?_
  refine EW.seq_n ?_
  refine CW.seq ?_
  refine CW.seq ?_
  refine CW.region ?_
  refine LW.move wn rfl rfl ?_
  refine LW.len kUnd_22 wn rfl rfl ?_
  refine LW.move wn rfl rfl ?_
  refine LW.nil ?_
  refine EW.seq_n ?_
  obtain ⟨y7, h8, hm_⟩ := bnd_some hm; clear hm
  refine CW.join_any (fun F_ w12 => ∃ (lab13 : Lab) (oa9 : Option Addr) (c10 : Nat), F_ = [(11, .slice oa9 y7.length c10)] ∧ Cx [] w lab w12 lab13 ∧ Own R_api_Partial lab13 w12 21 63 oa9 c10 y7 ∧ True) ?_ ?_
  · have hm := h8; clear h8
    refine CW.block ?_
    refine CW.sub (G := [(1, .int .i64 a1), (2, .slice oa4 a2.length c5), (3, .bool a3), (4, .int .i64 a4), (11, .slice none ([] : List S_api_Partial).length 0), (14, .slice oa1 a0.length c2), (15, .int .i64 (a0.length : Int)), (16, .int .i64 0)]) ⟨rfl, rfl, rfl, rfl, rfl, rfl, rfl, rfl, trivial⟩ ?_
    refine CW.loop (fun n20 F_ w18 => ∃ (lab19 : Lab) (k21 : Nat) (rem22 : List S_api_Partial) (x14 : List S_api_Partial) (oa15 : Option Addr) (c16 : Nat), n20 = rem22.length ∧ a0.drop k21 = rem22 ∧ F_ = [(1, .int .i64 a1), (2, .slice oa4 a2.length c5), (3, .bool a3), (4, .int .i64 a4), (11, .slice oa15 x14.length c16), (14, .slice oa1 a0.length c2), (15, .int .i64 (a0.length : Int)), (16, .int .i64 ((k21 : Nat) : Int))] ∧ Cx [] w lab w18 lab19 ∧ SL Rep.u8 lab19 w18 oa4 c5 a2 ∧ Own R_api_Partial lab19 w18 21 63 oa15 c16 x14 ∧ SL R_api_Partial lab19 w18 oa1 c2 a0 ∧ m_block_kept_l1 a1 a2 a3 a4 rem22 k21 x14 = some y7) _ ⟨_, 0, a0, _, none, 0, rfl, rfl, rfl, cx, s6, Own.nil, s3, hm⟩ ?_
    rintro n20 _ w18 ⟨lab19, k21, rem22, x14, oa15, c16, rfl, hd, rfl, cx, s6, o17, s3, hm⟩
    rcases rem22 with _ | ⟨x23, rem22⟩
    · rw [m_block_kept_l1] at hm; have hlt := drop_nil hd
      refine CW.seq ?_
      refine CW.region ?_
      refine LW.lss_lit hlt wn rfl rfl rfl ?_
      refine LW.nil ?_
      refine EW.seq_n ?_
      refine CW.seq ?_
      refine CW.cond_f rfl ?_
      refine CW.exit ?_
      refine EW.seq_x ?_
      refine EW.join_x ?_
      refine EW.block_x ?_
      obtain rfl := Option.some.inj hm
      refine EW.sub (G := [(11, .slice oa15 x14.length c16)]) ⟨rfl, trivial⟩ ?_
      exact EW.join_n ⟨_, oa15, c16, rfl, cx, o17, trivial⟩
    · rw [m_block_kept_l1] at hm; obtain ⟨hlt, hix, hd, hlt2⟩ := drop_cons hd
      refine CW.seq ?_
      refine CW.region ?_
      refine LW.lss_lit hlt wn rfl rfl rfl ?_
      refine LW.nil ?_
      refine EW.seq_n ?_
      refine CW.seq ?_
      refine CW.cond_t rfl ?_
      refine CW.skip ?_
      refine EW.seq_n ?_
      refine CW.seq ?_
      refine CW.block ?_
      refine CW.seq ?_
      refine CW.region ?_
      refine LW.index (bnd_ret hix) s3 kSl_22 wn rfl rfl rfl ?_; intro x_ p24 cs25 hx_ hr26 ha27; cases hx_
      obtain ⟨oa28, c29, oa31, c32, rfl, s30, s33, _⟩ := hr26
      refine LW.loadAn ha27 kAgg_63 rfl wn rfl rfl ?_
      refine LW.alloc 23 [.int .i64 0, .slice none 0 0, .slice none 0 0, .int .i64 0] kZero_63 rfl cx.top wn rfl ?_
      intro g34 lab35 w36 e37 b38
      replace cx := cx.step e37 rfl
      replace s6 := s6.step e37
      replace o17 := o17.step e37 rfl
      replace s3 := s3.step e37
      replace ha27 := ha27.step e37
      replace s30 := s30.step e37
      replace s33 := s33.step e37
      clear e37
      refine LW.storeBn [.int .i64 x23.Peer, .slice oa28 x23.Key.length c29, .slice oa31 x23.Data.length c32, .int .i64 x23.Until] [.int .i64 x23.Peer, .slice oa28 x23.Key.length c29, .slice oa31 x23.Data.length c32, .int .i64 x23.Until] b38 cx.top rfl kAgg_63 rfl rfl rfl rfl wn rfl rfl ?_
      intro w39 e40 b41; clear b38
      replace cx := cx.step e40 rfl
      replace s6 := s6.step e40
      replace o17 := o17.step e40 rfl
      replace s30 := s30.step e40
      replace s33 := s33.step e40
      replace s3 := s3.step e40
      replace ha27 := ha27.step e40
      clear e40
      refine LW.nil ?_
      refine EW.seq_n ?_
      refine CW.seq ?_
      refine CW.seq ?_
      obtain ⟨y42, h43, hm_⟩ := bnd_some hm; clear hm
      refine CW.join_any (fun F_ w44 => ∃ (lab45 : Lab) , F_ = [(1, .int .i64 a1), (2, .slice oa4 a2.length c5), (3, .bool a3), (4, .int .i64 a4), (11, .slice oa15 x14.length c16), (13, .pointer (some ⟨g34, 0, none⟩)), (14, .slice oa1 a0.length c2), (15, .int .i64 (a0.length : Int)), (16, .int .i64 ((k21 : Nat) : Int)), (38, .bool y42)] ∧ Cx [] w lab w44 lab45 ∧ SL Rep.u8 lab45 w44 oa4 c5 a2 ∧ Own R_api_Partial lab45 w44 21 63 oa15 c16 x14 ∧ Box lab45 w44 23 g34 63 [.int .i64 x23.Peer, .slice oa28 x23.Key.length c29, .slice oa31 x23.Data.length c32, .int .i64 x23.Until] ∧ SL Rep.u8 lab45 w44 oa28 c29 x23.Key ∧ SL Rep.u8 lab45 w44 oa31 c32 x23.Data ∧ SL R_api_Partial lab45 w44 oa1 c2 a0 ∧ True) ?_ ?_
      · have hm := h43; clear h43
        refine CW.region ?_
        refine LW.fldB 3 kFld_63_3 rfl wn rfl rfl ?_
        refine LW.loadB1 b41 kOne_3 rfl wn rfl rfl ?_
        refine LW.move wn rfl rfl ?_
        refine LW.leq hm wn rfl rfl rfl ?_; clear hm; intro x46 hm
        refine LW.move wn rfl rfl ?_
        rcases Bool.eq_false_or_eq_true x46 with hb48 | hb48
        · replace hm := cond_t hm hb48
          refine LW.skip 24 rfl (bk rfl hb48) rfl rfl ?_
          refine LW.skip 24 rfl (bk rfl hb48) rfl rfl ?_
          refine LW.skipU 26 rfl rfl rfl ?_
          refine LW.skipU 26 rfl rfl rfl ?_
          refine LW.skipU 26 rfl rfl rfl ?_
          refine LW.skipU 26 rfl rfl rfl ?_
          refine LW.skip 24 rfl (bk rfl hb48) rfl rfl ?_
          refine LW.skip 24 rfl (bk rfl hb48) rfl rfl ?_
          refine LW.skipU 32 rfl rfl rfl ?_
          refine LW.skipU 32 rfl rfl rfl ?_
          refine LW.skipU 32 rfl rfl rfl ?_
          refine LW.skipU 32 rfl rfl rfl ?_
          refine LW.skip 24 rfl (bk rfl hb48) rfl rfl ?_
          refine LW.pick_t wn rfl (bk rfl hb48) rfl ?_
          refine LW.nil ?_
          obtain rfl := Option.some.inj hm
          refine EW.sub (G := [(1, .int .i64 a1), (2, .slice oa4 a2.length c5), (3, .bool a3), (4, .int .i64 a4), (11, .slice oa15 x14.length c16), (13, .pointer (some ⟨g34, 0, none⟩)), (14, .slice oa1 a0.length c2), (15, .int .i64 (a0.length : Int)), (16, .int .i64 ((k21 : Nat) : Int)), (38, .bool true)]) ⟨rfl, rfl, rfl, rfl, rfl, rfl, rfl, rfl, rfl, rfl, trivial⟩ ?_
          exact EW.join_n ⟨_, rfl, cx, s6, o17, b41, s30, s33, s3, trivial⟩
        · replace hm := cond_f hm hb48
          refine LW.move (ws 24 rfl (bk rfl hb48)) rfl rfl ?_
          refine LW.move (ws 24 rfl (bk rfl hb48)) rfl rfl ?_
          rcases Bool.eq_false_or_eq_true a3 with hb50 | hb50
          · replace hm := cond_t hm hb50
            refine LW.fldB 0 kFld_63_0 rfl (ws 26 rfl (bk rfl hb50)) rfl rfl ?_
            refine LW.loadB1 b41 kOne_3 rfl (ws 26 rfl (bk rfl hb50)) rfl rfl ?_
            refine LW.move (ws 26 rfl (bk rfl hb50)) rfl rfl ?_
            refine LW.eql hm (ws 26 rfl (bk rfl hb50)) rfl rfl rfl ?_; clear hm; intro x51 hm
            refine LW.pick_t (ws 24 rfl (bk rfl hb48)) rfl (bk rfl hb50) rfl ?_
            refine LW.move (ws 24 rfl (bk rfl hb48)) rfl rfl ?_
            rcases Bool.eq_false_or_eq_true x51 with hb53 | hb53
            · replace hm := cond_t hm hb53
              refine LW.fldB 1 kFld_63_1 rfl (ws 32 rfl (bk rfl hb53)) rfl rfl ?_
              refine LW.loadB1 b41 kOne_24 rfl (ws 32 rfl (bk rfl hb53)) rfl rfl ?_
              refine LW.move (ws 32 rfl (bk rfl hb53)) rfl rfl ?_
              obtain ⟨y54, h58, hm_⟩ := bnd_some hm; clear hm; have hm := hm_; clear hm_
              refine LW.call kFn_40 (c_bytes_Equal h58 cx.top s30 s6) (ws 32 rfl (bk rfl hb53)) rfl rfl ?_
              rintro _ w55 ⟨rfl, e56, _⟩; refine ⟨_, rfl, ?_⟩
              replace cx := cx.step e56 rfl
              replace s6 := s6.step e56
              replace o17 := o17.step e56 rfl
              replace b41 := b41.step e56 rfl
              replace s30 := s30.step e56
              replace s33 := s33.step e56
              replace s3 := s3.step e56
              clear e56
              refine LW.pick_t (ws 24 rfl (bk rfl hb48)) rfl (bk rfl hb53) rfl ?_
              refine LW.pick_f wn rfl (bk rfl hb48) rfl ?_
              refine LW.nil ?_
              obtain rfl := Option.some.inj hm
              refine EW.sub (G := [(1, .int .i64 a1), (2, .slice oa4 a2.length c5), (3, .bool a3), (4, .int .i64 a4), (11, .slice oa15 x14.length c16), (13, .pointer (some ⟨g34, 0, none⟩)), (14, .slice oa1 a0.length c2), (15, .int .i64 (a0.length : Int)), (16, .int .i64 ((k21 : Nat) : Int)), (38, .bool y54)]) ⟨rfl, rfl, rfl, rfl, rfl, rfl, rfl, rfl, rfl, rfl, trivial⟩ ?_
              exact EW.join_n ⟨_, rfl, cx, s6, o17, b41, s30, s33, s3, trivial⟩
            · replace hm := cond_f hm hb53
              refine LW.skip 32 rfl (bk rfl hb53) rfl rfl ?_
              refine LW.skip 32 rfl (bk rfl hb53) rfl rfl ?_
              refine LW.skip 32 rfl (bk rfl hb53) rfl rfl ?_
              refine LW.skip 32 rfl (bk rfl hb53) rfl rfl ?_
              refine LW.pick_f (ws 24 rfl (bk rfl hb48)) rfl (bk rfl hb53) rfl ?_
              refine LW.pick_f wn rfl (bk rfl hb48) rfl ?_
              refine LW.nil ?_
              obtain rfl := Option.some.inj hm
              refine EW.sub (G := [(1, .int .i64 a1), (2, .slice oa4 a2.length c5), (3, .bool a3), (4, .int .i64 a4), (11, .slice oa15 x14.length c16), (13, .pointer (some ⟨g34, 0, none⟩)), (14, .slice oa1 a0.length c2), (15, .int .i64 (a0.length : Int)), (16, .int .i64 ((k21 : Nat) : Int)), (38, .bool false)]) ⟨rfl, rfl, rfl, rfl, rfl, rfl, rfl, rfl, rfl, rfl, trivial⟩ ?_
              exact EW.join_n ⟨_, rfl, cx, s6, o17, b41, s30, s33, s3, trivial⟩
          · replace hm := cond_f hm hb50
            refine LW.skip 26 rfl (bk rfl hb50) rfl rfl ?_
            refine LW.skip 26 rfl (bk rfl hb50) rfl rfl ?_
            refine LW.skip 26 rfl (bk rfl hb50) rfl rfl ?_
            refine LW.skip 26 rfl (bk rfl hb50) rfl rfl ?_
            refine LW.pick_f (ws 24 rfl (bk rfl hb48)) rfl (bk rfl hb50) rfl ?_
            refine LW.move (ws 24 rfl (bk rfl hb48)) rfl rfl ?_
            refine LW.skip 32 rfl rfl rfl rfl ?_
            refine LW.skip 32 rfl rfl rfl rfl ?_
            refine LW.skip 32 rfl rfl rfl rfl ?_
            refine LW.skip 32 rfl rfl rfl rfl ?_
            refine LW.pick_f (ws 24 rfl (bk rfl hb48)) rfl rfl rfl ?_
            refine LW.pick_f wn rfl (bk rfl hb48) rfl ?_
            refine LW.nil ?_
            obtain rfl := Option.some.inj hm
            refine EW.sub (G := [(1, .int .i64 a1), (2, .slice oa4 a2.length c5), (3, .bool a3), (4, .int .i64 a4), (11, .slice oa15 x14.length c16), (13, .pointer (some ⟨g34, 0, none⟩)), (14, .slice oa1 a0.length c2), (15, .int .i64 (a0.length : Int)), (16, .int .i64 ((k21 : Nat) : Int)), (38, .bool false)]) ⟨rfl, rfl, rfl, rfl, rfl, rfl, rfl, rfl, rfl, rfl, trivial⟩ ?_
            exact EW.join_n ⟨_, rfl, cx, s6, o17, b41, s30, s33, s3, trivial⟩
      · rintro _ w44 ⟨lab45, rfl, cx, s6, o17, b41, s30, s33, s3, _⟩
        have hm := hm_; clear hm_
        refine EW.seq_n ?_
        refine CW.cond (b := y42) rfl (fun hb59 => ?_) (fun hb59 => ?_)
        · replace hm := cond_t hm hb59
          refine CW.exit ?_
          refine EW.seq_x ?_
          refine EW.block_x ?_
          refine EW.seq_n ?_
          refine CW.region ?_
          refine LW.add_lit (w64_succ hlt2 s3.le) wn rfl rfl rfl ?_
          refine LW.move wn rfl rfl ?_
          refine LW.nil ?_
          refine EW.sub (G := [(1, .int .i64 a1), (2, .slice oa4 a2.length c5), (3, .bool a3), (4, .int .i64 a4), (11, .slice oa15 x14.length c16), (14, .slice oa1 a0.length c2), (15, .int .i64 (a0.length : Int)), (16, .int .i64 ((k21 + 1 : Nat) : Int))]) ⟨rfl, rfl, rfl, rfl, rfl, rfl, rfl, rfl, trivial⟩ ?_
          exact EW.join_n ⟨_, Nat.lt_succ_self _, _, k21 + 1, rem22, _, oa15, c16, rfl, hd, rfl, cx, s6, o17, s3, hm⟩
        · replace hm := cond_f hm hb59
          refine CW.skip ?_
          refine EW.seq_n ?_
          refine CW.seq ?_
          obtain ⟨y62, hx_y62, hm_⟩ := bnd_some hm; clear hm; have hm := hm_; clear hm_
          obtain ⟨y71, hx_y71, hm_⟩ := bnd_some hm; clear hm; have hm := hm_; clear hm_
          refine CW.sub (G := [(1, .int .i64 a1), (2, .slice oa4 a2.length c5), (3, .bool a3), (4, .int .i64 a4), (11, .slice oa15 x14.length c16), (13, .pointer (some ⟨g34, 0, none⟩)), (14, .slice oa1 a0.length c2), (15, .int .i64 (a0.length : Int)), (16, .int .i64 ((k21 : Nat) : Int))]) ⟨rfl, rfl, rfl, rfl, rfl, rfl, rfl, rfl, rfl, trivial⟩ ?_
          refine CW.drawL (fun i_ => []) (fun i_ => by (try dsimp only); (repeat' split) <;> rfl) kMix_ 7 (by kernel_rfl) cx.top ?_
          intro w78 e79
          replace cx := cx.step e79 rfl
          replace s6 := s6.step e79
          replace o17 := o17.step e79 rfl
          replace b41 := b41.step e79 rfl
          replace s30 := s30.step e79
          replace s33 := s33.step e79
          replace s3 := s3.step e79
          clear e79
          refine ⟨[(fun L_ lab_ w_ v_ => v_ = .pointer (some ⟨g34, 1, none⟩) ∧ True),
    (fun L_ lab_ w_ v_ => v_ = .slice oa28 x23.Key.length c29 ∧ True),
    (fun L_ lab_ w_ v_ => ∃ (oa66 : Option Addr) (c67 : Nat), v_ = .slice oa66 y62.length c67 ∧ SL Rep.u8 lab_ w_ oa66 c67 y62 ∧ True),
    (fun L_ lab_ w_ v_ => v_ = .pointer (some ⟨g34, 2, none⟩) ∧ True),
    (fun L_ lab_ w_ v_ => v_ = .slice oa31 x23.Data.length c32 ∧ True),
    (fun L_ lab_ w_ v_ => ∃ (oa75 : Option Addr) (c76 : Nat), v_ = .slice oa75 y71.length c76 ∧ SL Rep.u8 lab_ w_ oa75 c76 y71 ∧ True),
    (fun L_ lab_ w_ v_ => v_ = .pointer (some ⟨g34, 1, none⟩) ∧ True)], (fun L_ lab_ w_ => Cx [] w lab w_ lab_ ∧ SL Rep.u8 lab_ w_ oa4 c5 a2 ∧ Own R_api_Partial lab_ w_ 21 63 oa15 c16 x14 ∧ Box lab_ w_ 23 g34 63 [.int .i64 x23.Peer, .slice oa28 x23.Key.length c29, .slice oa31 x23.Data.length c32, .int .i64 x23.Until] ∧ SL Rep.u8 lab_ w_ oa28 c29 x23.Key ∧ SL Rep.u8 lab_ w_ oa31 c32 x23.Data ∧ SL R_api_Partial lab_ w_ oa1 c2 a0 ∧ True), ?_, ⟨cx, s6, o17, b41, s30, s33, s3, trivial⟩, ?_, ?_⟩
          · exact ⟨by rintro i_ L_ lab_ w_ lab2_ w2_ v_ hne_ hd_ hk_ hp_ ⟨hv_, _⟩; exact ⟨hv_, trivial⟩, by rintro i_ L_ lab_ w_ lab2_ w2_ v_ hne_ hd_ hk_ hp_ ⟨hv_, _⟩; exact ⟨hv_, trivial⟩, by rintro i_ L_ lab_ w_ lab2_ w2_ v_ hne_ hd_ hk_ hp_ ⟨oa66, c67, hv_, s68, _⟩; exact ⟨oa66, c67, hv_, (s68.keep hp_), trivial⟩, by rintro i_ L_ lab_ w_ lab2_ w2_ v_ hne_ hd_ hk_ hp_ ⟨hv_, _⟩; exact ⟨hv_, trivial⟩, by rintro i_ L_ lab_ w_ lab2_ w2_ v_ hne_ hd_ hk_ hp_ ⟨hv_, _⟩; exact ⟨hv_, trivial⟩, by rintro i_ L_ lab_ w_ lab2_ w2_ v_ hne_ hd_ hk_ hp_ ⟨oa75, c76, hv_, s77, _⟩; exact ⟨oa75, c76, hv_, (s77.keep hp_), trivial⟩, by rintro i_ L_ lab_ w_ lab2_ w2_ v_ hne_ hd_ hk_ hp_ ⟨hv_, _⟩; exact ⟨hv_, trivial⟩, trivial⟩
          · refine (ob_succ (ob_succ (ob_succ (ob_succ (ob_succ (ob_succ (ob_succ ob_nil ?_) ?_) ?_) ?_) ?_) ?_) ?_)
            · intro o_ L_ F_ lab_ w_ ho_ hL_ hw_ hcl_ hb_ hr_ hq_; obtain rfl := Option.some.inj (ho_ : some _ = some o_); obtain ⟨cx, s6, o17, b41, s30, s33, s3, _⟩ := hq_
              have hl13 := hb_ 13 _ rfl
              refine LW.fldB 1 kFld_63_1 rfl wn rfl hl13 ?_
              refine LW.nil ?_; intro a_ ha_
              exact ⟨rfl, _, _, ha_, ⟨rfl, trivial⟩, Ke.refl, cx, s6, o17, b41, s30, s33, s3, trivial⟩
            · intro o_ L_ F_ lab_ w_ ho_ hL_ hw_ hcl_ hb_ hr_ hq_; obtain rfl := Option.some.inj (ho_ : some _ = some o_); obtain ⟨cx, s6, o17, b41, s30, s33, s3, _⟩ := hq_
              obtain ⟨q60, hl39, rfl, _⟩ := hr_ 0 (by decide) (hw_ 0 (by kernel_rfl))
              replace hl39 : Gk.look F_ 39 = some (.pointer (some ⟨g34, 1, none⟩)) := hl39
              refine LW.loadB1 b41 kOne_24 rfl wn rfl hl39 ?_
              refine LW.nil ?_; intro a_ ha_
              exact ⟨rfl, _, _, ha_, ⟨rfl, trivial⟩, Ke.refl, cx, s6, o17, b41, s30, s33, s3, trivial⟩
            · intro o_ L_ F_ lab_ w_ ho_ hL_ hw_ hcl_ hb_ hr_ hq_; obtain rfl := Option.some.inj (ho_ : some _ = some o_); obtain ⟨cx, s6, o17, b41, s30, s33, s3, _⟩ := hq_
              obtain ⟨q61, hl40, rfl, _⟩ := hr_ 1 (by decide) (hw_ 1 (by kernel_rfl))
              replace hl40 : Gk.look F_ 40 = some (.slice oa28 x23.Key.length c29) := hl40
              refine LW.call kFn_33 (c_bytes_Clone hx_y62 cx.top s30) wn rfl (evs_cons hl40 evs_nil) ?_
              rintro _ w63 ⟨oa66, c67, rfl, e64, s68, _⟩; refine ⟨_, rfl, ?_⟩
              replace cx := cx.step e64 rfl
              replace s6 := s6.step e64
              replace o17 := o17.step e64 rfl
              replace b41 := b41.step e64 rfl
              replace s30 := s30.step e64
              replace s33 := s33.step e64
              replace s3 := s3.step e64
              refine LW.nil ?_; intro a_ ha_
              exact ⟨rfl, _, _, ha_, ⟨oa66, c67, rfl, s68, trivial⟩, e64.ke0, cx, s6, o17, b41, s30, s33, s3, trivial⟩
            · intro o_ L_ F_ lab_ w_ ho_ hL_ hw_ hcl_ hb_ hr_ hq_; obtain rfl := Option.some.inj (ho_ : some _ = some o_); obtain ⟨cx, s6, o17, b41, s30, s33, s3, _⟩ := hq_
              have hl13 := hb_ 13 _ rfl
              refine LW.fldB 2 kFld_63_2 rfl wn rfl hl13 ?_
              refine LW.nil ?_; intro a_ ha_
              exact ⟨rfl, _, _, ha_, ⟨rfl, trivial⟩, Ke.refl, cx, s6, o17, b41, s30, s33, s3, trivial⟩
            · intro o_ L_ F_ lab_ w_ ho_ hL_ hw_ hcl_ hb_ hr_ hq_; obtain rfl := Option.some.inj (ho_ : some _ = some o_); obtain ⟨cx, s6, o17, b41, s30, s33, s3, _⟩ := hq_
              obtain ⟨q69, hl42, rfl, _⟩ := hr_ 3 (by decide) (hw_ 3 (by kernel_rfl))
              replace hl42 : Gk.look F_ 42 = some (.pointer (some ⟨g34, 2, none⟩)) := hl42
              refine LW.loadB1 b41 kOne_24 rfl wn rfl hl42 ?_
              refine LW.nil ?_; intro a_ ha_
              exact ⟨rfl, _, _, ha_, ⟨rfl, trivial⟩, Ke.refl, cx, s6, o17, b41, s30, s33, s3, trivial⟩
            · intro o_ L_ F_ lab_ w_ ho_ hL_ hw_ hcl_ hb_ hr_ hq_; obtain rfl := Option.some.inj (ho_ : some _ = some o_); obtain ⟨cx, s6, o17, b41, s30, s33, s3, _⟩ := hq_
              obtain ⟨q70, hl43, rfl, _⟩ := hr_ 4 (by decide) (hw_ 4 (by kernel_rfl))
              replace hl43 : Gk.look F_ 43 = some (.slice oa31 x23.Data.length c32) := hl43
              refine LW.call kFn_33 (c_bytes_Clone hx_y71 cx.top s33) wn rfl (evs_cons hl43 evs_nil) ?_
              rintro _ w72 ⟨oa75, c76, rfl, e73, s77, _⟩; refine ⟨_, rfl, ?_⟩
              replace cx := cx.step e73 rfl
              replace s6 := s6.step e73
              replace o17 := o17.step e73 rfl
              replace b41 := b41.step e73 rfl
              replace s30 := s30.step e73
              replace s33 := s33.step e73
              replace s3 := s3.step e73
              refine LW.nil ?_; intro a_ ha_
              exact ⟨rfl, _, _, ha_, ⟨oa75, c76, rfl, s77, trivial⟩, e73.ke0, cx, s6, o17, b41, s30, s33, s3, trivial⟩
            · intro o_ L_ F_ lab_ w_ ho_ hL_ hw_ hcl_ hb_ hr_ hq_; obtain rfl := Option.some.inj (ho_ : some _ = some o_); obtain ⟨cx, s6, o17, b41, s30, s33, s3, _⟩ := hq_
              have hl13 := hb_ 13 _ rfl
              refine LW.fldB 1 kFld_63_1 rfl wn rfl hl13 ?_
              refine LW.nil ?_; intro a_ ha_
              exact ⟨rfl, _, _, ha_, ⟨rfl, trivial⟩, Ke.refl, cx, s6, o17, b41, s30, s33, s3, trivial⟩
          · intro F_ lab_ w_ hb_ hr_ hq_; obtain ⟨cx, s6, o17, b41, s30, s33, s3, _⟩ := hq_
            obtain ⟨q83, hl41, oa80, c81, rfl, s82, _⟩ := hr_ 2 (by decide)
            obtain ⟨q87, hl44, oa84, c85, rfl, s86, _⟩ := hr_ 5 (by decide)
            obtain ⟨q88, hl45, rfl, _⟩ := hr_ 6 (by decide)
            refine LW.sub (G := [(1, .int .i64 a1), (2, .slice oa4 a2.length c5), (3, .bool a3), (4, .int .i64 a4), (11, .slice oa15 x14.length c16), (13, .pointer (some ⟨g34, 0, none⟩)), (14, .slice oa1 a0.length c2), (15, .int .i64 (a0.length : Int)), (16, .int .i64 ((k21 : Nat) : Int)), (41, .slice oa80 y62.length c81), (44, .slice oa84 y71.length c85), (45, .pointer (some ⟨g34, 1, none⟩))]) ⟨hb_ 1 _ rfl, hb_ 2 _ rfl, hb_ 3 _ rfl, hb_ 4 _ rfl, hb_ 11 _ rfl, hb_ 13 _ rfl, hb_ 14 _ rfl, hb_ 15 _ rfl, hb_ 16 _ rfl, hl41, hl44, hl45, trivial⟩ ?_
            simp only [List.drop_succ_cons, List.drop_zero]
            refine LW.storeB1 [.int .i64 x23.Peer, .slice oa80 y62.length c81, .slice oa31 x23.Data.length c32, .int .i64 x23.Until] b41 cx.top rfl kOne_24 rfl rfl rfl rfl wn rfl rfl ?_
            intro w89 e90 b91; clear b41
            replace cx := cx.step e90 rfl
            replace s6 := s6.step e90
            replace o17 := o17.step e90 rfl
            replace s82 := s82.step e90
            replace s33 := s33.step e90
            replace s3 := s3.step e90
            replace s86 := s86.step e90
            clear e90
            refine LW.fldB 2 kFld_63_2 rfl wn rfl rfl ?_
            refine LW.storeB1 [.int .i64 x23.Peer, .slice oa80 y62.length c81, .slice oa84 y71.length c85, .int .i64 x23.Until] b91 cx.top rfl kOne_24 rfl rfl rfl rfl wn rfl rfl ?_
            intro w92 e93 b94; clear b91
            replace cx := cx.step e93 rfl
            replace s6 := s6.step e93
            replace o17 := o17.step e93 rfl
            replace s82 := s82.step e93
            replace s86 := s86.step e93
            replace s3 := s3.step e93
            clear e93
            refine LW.nil ?_
            refine EW.seq_n ?_
            refine CW.region ?_
            refine LW.move wn rfl rfl ?_
            refine LW.loadBn [.int .i64 x23.Peer, .slice oa80 y62.length c81, .slice oa84 y71.length c85, .int .i64 x23.Until] b94 kAgg_63 rfl rfl wn rfl rfl ?_
            refine LW.buildSlice (ρ := R_api_Partial) (vs := [(0, .agg ([.int .i64 x23.Peer, .slice oa80 y62.length c81, .slice oa84 y71.length c85, .int .i64 x23.Until] : List Value).toArray)]) (css := [[.int .i64 x23.Peer, .slice oa80 y62.length c81, .slice oa84 y71.length c85, .int .i64 x23.Until]]) (xs := [(S_api_Partial.mk x23.Peer y62 y71 x23.Until)]) rfl kSl_22 kZero_63 (by kernel_rfl) rfl rfl ⟨⟨_, _, _, _, rfl, s82, s86, trivial⟩, trivial⟩ cx.top wn rfl ?_
            intro oa95 c96 lab99 w100 e97 s98
            replace cx := cx.step e97 rfl
            replace s6 := s6.step e97
            replace o17 := o17.step e97 rfl
            replace b94 := b94.step e97 rfl
            replace s82 := s82.step e97
            replace s86 := s86.step e97
            replace s3 := s3.step e97
            clear e97
            refine LW.append (ρ := R_api_Partial) (xs := x14) (ys := [(S_api_Partial.mk x23.Peer y62 y71 x23.Until)]) hm o17 (SL.flat' (lab := _) (c := c96) s98) cx.top rfl kSl_22 rfl wn rfl rfl rfl ?_; clear hm; intro x101 oa102 c103 lab104 w105 hm e106 o107
            replace cx := cx.step e106 rfl
            replace s6 := s6.step e106
            replace b94 := b94.step e106 rfl
            replace s82 := s82.step e106
            replace s86 := s86.step e106
            replace s3 := s3.step e106
            replace s98 := s98.step e106
            clear e106
            refine LW.assign wn rfl rfl ?_
            refine LW.nil ?_
            refine EW.block_n ?_
            refine EW.seq_n ?_
            refine CW.region ?_
            refine LW.add_lit (w64_succ hlt2 s3.le) wn rfl rfl rfl ?_
            refine LW.move wn rfl rfl ?_
            refine LW.nil ?_
            refine EW.sub (G := [(1, .int .i64 a1), (2, .slice oa4 a2.length c5), (3, .bool a3), (4, .int .i64 a4), (11, .slice oa102 x101.length c103), (14, .slice oa1 a0.length c2), (15, .int .i64 (a0.length : Int)), (16, .int .i64 ((k21 + 1 : Nat) : Int))]) ⟨rfl, rfl, rfl, rfl, rfl, rfl, rfl, rfl, trivial⟩ ?_
            exact EW.join_n ⟨_, Nat.lt_succ_self _, _, k21 + 1, rem22, _, oa102, c103, rfl, hd, rfl, cx, s6, o107, s3, hm⟩
  · rintro _ w12 ⟨lab13, oa9, c10, rfl, cx, o11, _⟩
    have hm := hm_; clear hm_
    refine EW.seq_n ?_
    refine CW.seq ?_
    refine CW.region ?_
    refine LW.move wn rfl rfl ?_
    refine LW.assign wn rfl rfl ?_
    refine LW.nil ?_
    refine EW.seq_n ?_
    refine CW.ret ?_
    obtain rfl := Option.some.inj hm
    obtain ⟨lab_, ste_, own_⟩ := o11.out cx t rfl k
    exact EW.ret1 rfl rfl ⟨_, oa9, c10, rfl, ste_, own_, trivial⟩
end Go.Proofs.Ytaefnnamjphieaa
