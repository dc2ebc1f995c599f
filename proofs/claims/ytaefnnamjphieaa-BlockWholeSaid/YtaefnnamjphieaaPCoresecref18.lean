/-
  Package coresecref18: models of its functions, and that the functions compute them. No condition but that the model has a value.
-/
import Derived.Test.YtaefnnamjphieaaPCoresecref16
namespace Go.Proofs.Ytaefnnamjphieaa
open Go.Gk Go.RowKit
set_option linter.unusedVariables false in
def m_coresecref18_Valid_l2 (x18 : S_api_Partial) : List S_api_Partial → Nat → Option (Bool ⊕ Unit)
    | [], k69 => some (Sum.inr ())
    | x71 :: rem70, k69 => bnd (letm (x71.Peer == x18.Peer) fun x94 =>
  (cond x94 (letm (x71.Key == x18.Key) fun x97 =>
  some (x97))
   (some (false))) : Option (Bool)) fun y90 =>
  (cond y90 (some (Sum.inl false))
   (m_coresecref18_Valid_l2 x18 rem70 (k69 + 1)))
set_option linter.unusedVariables false in
def m_coresecref18_Valid_l1 (a0 : List S_api_Partial) : List S_api_Partial → Nat → Option (Bool ⊕ Unit)
    | [], k16 => some (Sum.inr ())
    | x18 :: rem17, k16 => bnd (letm (decide (x18.Peer < 0)) fun x41 =>
  (cond x41 (some (true))
   (letm (decide (65536 < x18.Peer)) fun x44 =>
  (cond x44 (some (true))
   (letm (decide (4096 < (x18.Key.length : Int))) fun x47 =>
  (cond x47 (some (true))
   (letm (decide (4096 < (x18.Data.length : Int))) fun x50 =>
  (cond x50 (some (true))
   (letm (decide (x18.Until < 0)) fun x53 =>
  some (x53))))))))) : Option (Bool)) fun y37 =>
  (cond y37 (some (Sum.inl false))
   (bnd (cut a0 0 ((k16 : Nat) : Int)) fun x55 =>
  bndS (m_coresecref18_Valid_l2 x18 x55 0 : Option (Bool ⊕ Unit)) Sum.inl fun y59 =>
  m_coresecref18_Valid_l1 a0 rem17 (k16 + 1)))
set_option linter.unusedVariables false in
def m_coresecref18_Valid (a0 : List S_api_Partial) : Option (Bool) :=
  letm (decide (4 < (a0.length : Int))) fun x4 =>
  (cond x4 (some false)
   (bndS (m_coresecref18_Valid_l1 a0 a0 0 : Option (Bool ⊕ Unit)) (fun q => q) fun y6 =>
  some true))
set_option maxRecDepth 100000 in
set_option maxHeartbeats 2000000 in
theorem c_coresecref18_Valid {lab : Lab} {w : World} {a0 : List S_api_Partial} {r : Bool} (hm : m_coresecref18_Valid a0 = some r) (t : Top lab w) {oa1 : Option Addr} {c2 : Nat} (s3 : SL R_api_Partial lab w oa1 c2 a0) : Calls Try.prog 15 [.slice oa1 a0.length c2].toArray w (fun e w' => e = .returned (.bool r) ∧ Ste lab 0 w lab w' ∧ True) := by
  refine enter Try.func15 rfl 66 rfl rfl ?_
  have cx := Cx.start t
  replace s3 := s3.keep Keeps.lin
  refine CW.sub (G := [(0, .slice oa1 a0.length c2)]) ⟨rfl, trivial⟩ ?_
  unfold m_coresecref18_Valid at hm
  refine CW.seq ?_
  refine CW.region ?_
  refine LW.assign wn rfl rfl ?_
  refine LW.nil ?_
  refine EW.seq_n ?_
  refine CW.seq ?_
  refine CW.seq ?_
  refine CW.region ?_
  refine LW.move wn rfl rfl ?_
  refine LW.len kUnd_22 wn rfl rfl ?_
  refine LW.gtr hm wn rfl rfl rfl ?_; clear hm; intro x4 hm
  refine LW.nil ?_
  refine EW.seq_n ?_
  refine CW.cond (b := x4) rfl (fun hb5 => ?_) (fun hb5 => ?_)
  · replace hm := cond_t hm hb5
    refine CW.seq ?_
    refine CW.region ?_
    refine LW.assign wn rfl rfl ?_
    refine LW.nil ?_
    refine EW.seq_n ?_
    refine CW.ret ?_
    refine EW.seq_r ?_
    obtain rfl := Option.some.inj hm
    exact EW.ret1 rfl rfl ⟨rfl, (cx.ste t), trivial⟩
  · replace hm := cond_f hm hb5
    refine CW.skip ?_
    refine EW.seq_n ?_
    refine CW.seq ?_
    refine CW.seq ?_
    refine CW.region ?_
    refine LW.move wn rfl rfl ?_
    refine LW.len kUnd_22 wn rfl rfl ?_
    refine LW.move wn rfl rfl ?_
    refine LW.nil ?_
    refine EW.seq_n ?_
    obtain ⟨s7, h8, hs9, hs10⟩ := bndS_some hm; clear hm
    refine CW.join_any (fun F_ w11 => ∃ (y6 : Unit) (lab12 : Lab) , s7 = .inr y6 ∧ F_ = [] ∧ Cx [] w lab w11 lab12 ∧ True) ?_ ?_
    · have hm := h8; clear h8
      refine CW.block ?_
      refine CW.sub (G := [(0, .slice oa1 a0.length c2), (10, .slice oa1 a0.length c2), (11, .int .i64 (a0.length : Int)), (12, .int .i64 0)]) ⟨rfl, rfl, rfl, rfl, trivial⟩ ?_
      refine CW.loop (fun n15 F_ w13 => ∃ (lab14 : Lab) (k16 : Nat) (rem17 : List S_api_Partial)  , n15 = rem17.length ∧ a0.drop k16 = rem17 ∧ F_ = [(0, .slice oa1 a0.length c2), (10, .slice oa1 a0.length c2), (11, .int .i64 (a0.length : Int)), (12, .int .i64 ((k16 : Nat) : Int))] ∧ Cx [] w lab w13 lab14 ∧ SL R_api_Partial lab14 w13 oa1 c2 a0 ∧ m_coresecref18_Valid_l1 a0 rem17 k16 = some s7) _ ⟨_, 0, a0, rfl, rfl, rfl, cx, s3, hm⟩ ?_
      rintro n15 _ w13 ⟨lab14, k16, rem17, rfl, hd, rfl, cx, s3, hm⟩
      rcases rem17 with _ | ⟨x18, rem17⟩
      · rw [m_coresecref18_Valid_l1] at hm; have hlt := drop_nil hd
        refine CW.seq ?_
        refine CW.region ?_
        refine LW.lss_lit hlt wn rfl rfl rfl ?_
        refine LW.nil ?_
        refine EW.seq_n ?_
        refine CW.seq ?_
        refine CW.cond_f rfl ?_
        refine CW.exit ?_
        refine EW.seq_x ?_
        refine EW.join_x ?_
        refine EW.block_x ?_
        obtain rfl := Option.some.inj hm
        refine EW.sub (G := []) trivial ?_
        exact EW.join_n ⟨(), _, rfl, rfl, cx, trivial⟩
      · rw [m_coresecref18_Valid_l1] at hm; obtain ⟨hlt, hix, hd, hlt2⟩ := drop_cons hd
        refine CW.seq ?_
        refine CW.region ?_
        refine LW.lss_lit hlt wn rfl rfl rfl ?_
        refine LW.nil ?_
        refine EW.seq_n ?_
        refine CW.seq ?_
        refine CW.cond_t rfl ?_
        refine CW.skip ?_
        refine EW.seq_n ?_
        refine CW.seq ?_
        refine CW.block ?_
        refine CW.seq ?_
        refine CW.region ?_
        refine LW.move wn rfl rfl ?_
        refine LW.index (bnd_ret hix) s3 kSl_22 wn rfl rfl rfl ?_; intro x_ p19 cs20 hx_ hr21 ha22; cases hx_
        obtain ⟨oa23, c24, oa26, c27, rfl, s25, s28, _⟩ := hr21
        refine LW.loadAn ha22 kAgg_63 rfl wn rfl rfl ?_
        refine LW.alloc 14 [.int .i64 0, .slice none 0 0, .slice none 0 0, .int .i64 0] kZero_63 rfl cx.top wn rfl ?_
        intro g29 lab30 w31 e32 b33
        replace cx := cx.step e32 rfl
        replace s3 := s3.step e32
        replace ha22 := ha22.step e32
        replace s25 := s25.step e32
        replace s28 := s28.step e32
        clear e32
        refine LW.assign wn rfl rfl ?_
        refine LW.storeBn [.int .i64 x18.Peer, .slice oa23 x18.Key.length c24, .slice oa26 x18.Data.length c27, .int .i64 x18.Until] [.int .i64 x18.Peer, .slice oa23 x18.Key.length c24, .slice oa26 x18.Data.length c27, .int .i64 x18.Until] b33 cx.top rfl kAgg_63 rfl rfl rfl rfl wn rfl rfl ?_
        intro w34 e35 b36; clear b33
        replace cx := cx.step e35 rfl
        replace s3 := s3.step e35
        replace s25 := s25.step e35
        replace s28 := s28.step e35
        replace ha22 := ha22.step e35
        clear e35
        refine LW.nil ?_
        refine EW.seq_n ?_
        refine CW.seq ?_
        refine CW.seq ?_
        obtain ⟨y37, h38, hm_⟩ := bnd_some hm; clear hm
        refine CW.join_any (fun F_ w39 => ∃ (lab40 : Lab) , F_ = [(0, .slice oa1 a0.length c2), (3, .int .i64 ((k16 : Nat) : Int)), (4, .pointer (some ⟨g29, 0, none⟩)), (10, .slice oa1 a0.length c2), (11, .int .i64 (a0.length : Int)), (12, .int .i64 ((k16 : Nat) : Int)), (41, .bool y37)] ∧ Cx [] w lab w39 lab40 ∧ SL R_api_Partial lab40 w39 oa1 c2 a0 ∧ Box lab40 w39 14 g29 63 [.int .i64 x18.Peer, .slice oa23 x18.Key.length c24, .slice oa26 x18.Data.length c27, .int .i64 x18.Until] ∧ SL Rep.u8 lab40 w39 oa23 c24 x18.Key ∧ SL Rep.u8 lab40 w39 oa26 c27 x18.Data ∧ True) ?_ ?_
        · have hm := h38; clear h38
          refine CW.region ?_
          refine LW.fldB 0 kFld_63_0 rfl wn rfl rfl ?_
          refine LW.loadB1 b36 kOne_3 rfl wn rfl rfl ?_
          refine LW.lss hm wn rfl rfl rfl ?_; clear hm; intro x41 hm
          refine LW.move wn rfl rfl ?_
          rcases Bool.eq_false_or_eq_true x41 with hb43 | hb43
          · replace hm := cond_t hm hb43
            refine LW.skip 20 rfl (bk rfl hb43) rfl rfl ?_
            refine LW.skip 20 rfl (bk rfl hb43) rfl rfl ?_
            refine LW.skip 20 rfl (bk rfl hb43) rfl rfl ?_
            refine LW.pick_t wn rfl (bk rfl hb43) rfl ?_
            refine LW.move wn rfl rfl ?_
            refine LW.skip 25 rfl rfl rfl rfl ?_
            refine LW.skip 25 rfl rfl rfl rfl ?_
            refine LW.skip 25 rfl rfl rfl rfl ?_
            refine LW.skip 25 rfl rfl rfl rfl ?_
            refine LW.pick_t wn rfl rfl rfl ?_
            refine LW.move wn rfl rfl ?_
            refine LW.skip 31 rfl rfl rfl rfl ?_
            refine LW.skip 31 rfl rfl rfl rfl ?_
            refine LW.skip 31 rfl rfl rfl rfl ?_
            refine LW.skip 31 rfl rfl rfl rfl ?_
            refine LW.pick_t wn rfl rfl rfl ?_
            refine LW.move wn rfl rfl ?_
            refine LW.skip 37 rfl rfl rfl rfl ?_
            refine LW.skip 37 rfl rfl rfl rfl ?_
            refine LW.skip 37 rfl rfl rfl rfl ?_
            refine LW.pick_t wn rfl rfl rfl ?_
            refine LW.nil ?_
            obtain rfl := Option.some.inj hm
            refine EW.sub (G := [(0, .slice oa1 a0.length c2), (3, .int .i64 ((k16 : Nat) : Int)), (4, .pointer (some ⟨g29, 0, none⟩)), (10, .slice oa1 a0.length c2), (11, .int .i64 (a0.length : Int)), (12, .int .i64 ((k16 : Nat) : Int)), (41, .bool true)]) ⟨rfl, rfl, rfl, rfl, rfl, rfl, rfl, trivial⟩ ?_
            exact EW.join_n ⟨_, rfl, cx, s3, b36, s25, s28, trivial⟩
          · replace hm := cond_f hm hb43
            refine LW.fldB 0 kFld_63_0 rfl (ws 20 rfl (bk rfl hb43)) rfl rfl ?_
            refine LW.loadB1 b36 kOne_3 rfl (ws 20 rfl (bk rfl hb43)) rfl rfl ?_
            refine LW.gtr hm (ws 20 rfl (bk rfl hb43)) rfl rfl rfl ?_; clear hm; intro x44 hm
            refine LW.pick_f wn rfl (bk rfl hb43) rfl ?_
            refine LW.move wn rfl rfl ?_
            rcases Bool.eq_false_or_eq_true x44 with hb46 | hb46
            · replace hm := cond_t hm hb46
              refine LW.skip 25 rfl (bk rfl hb46) rfl rfl ?_
              refine LW.skip 25 rfl (bk rfl hb46) rfl rfl ?_
              refine LW.skip 25 rfl (bk rfl hb46) rfl rfl ?_
              refine LW.skip 25 rfl (bk rfl hb46) rfl rfl ?_
              refine LW.pick_t wn rfl (bk rfl hb46) rfl ?_
              refine LW.move wn rfl rfl ?_
              refine LW.skip 31 rfl rfl rfl rfl ?_
              refine LW.skip 31 rfl rfl rfl rfl ?_
              refine LW.skip 31 rfl rfl rfl rfl ?_
              refine LW.skip 31 rfl rfl rfl rfl ?_
              refine LW.pick_t wn rfl rfl rfl ?_
              refine LW.move wn rfl rfl ?_
              refine LW.skip 37 rfl rfl rfl rfl ?_
              refine LW.skip 37 rfl rfl rfl rfl ?_
              refine LW.skip 37 rfl rfl rfl rfl ?_
              refine LW.pick_t wn rfl rfl rfl ?_
              refine LW.nil ?_
              obtain rfl := Option.some.inj hm
              refine EW.sub (G := [(0, .slice oa1 a0.length c2), (3, .int .i64 ((k16 : Nat) : Int)), (4, .pointer (some ⟨g29, 0, none⟩)), (10, .slice oa1 a0.length c2), (11, .int .i64 (a0.length : Int)), (12, .int .i64 ((k16 : Nat) : Int)), (41, .bool true)]) ⟨rfl, rfl, rfl, rfl, rfl, rfl, rfl, trivial⟩ ?_
              exact EW.join_n ⟨_, rfl, cx, s3, b36, s25, s28, trivial⟩
            · replace hm := cond_f hm hb46
              refine LW.fldB 1 kFld_63_1 rfl (ws 25 rfl (bk rfl hb46)) rfl rfl ?_
              refine LW.loadB1 b36 kOne_24 rfl (ws 25 rfl (bk rfl hb46)) rfl rfl ?_
              refine LW.len kUnd_24 (ws 25 rfl (bk rfl hb46)) rfl rfl ?_
              refine LW.gtr hm (ws 25 rfl (bk rfl hb46)) rfl rfl rfl ?_; clear hm; intro x47 hm
              refine LW.pick_f wn rfl (bk rfl hb46) rfl ?_
              refine LW.move wn rfl rfl ?_
              rcases Bool.eq_false_or_eq_true x47 with hb49 | hb49
              · replace hm := cond_t hm hb49
                refine LW.skip 31 rfl (bk rfl hb49) rfl rfl ?_
                refine LW.skip 31 rfl (bk rfl hb49) rfl rfl ?_
                refine LW.skip 31 rfl (bk rfl hb49) rfl rfl ?_
                refine LW.skip 31 rfl (bk rfl hb49) rfl rfl ?_
                refine LW.pick_t wn rfl (bk rfl hb49) rfl ?_
                refine LW.move wn rfl rfl ?_
                refine LW.skip 37 rfl rfl rfl rfl ?_
                refine LW.skip 37 rfl rfl rfl rfl ?_
                refine LW.skip 37 rfl rfl rfl rfl ?_
                refine LW.pick_t wn rfl rfl rfl ?_
                refine LW.nil ?_
                obtain rfl := Option.some.inj hm
                refine EW.sub (G := [(0, .slice oa1 a0.length c2), (3, .int .i64 ((k16 : Nat) : Int)), (4, .pointer (some ⟨g29, 0, none⟩)), (10, .slice oa1 a0.length c2), (11, .int .i64 (a0.length : Int)), (12, .int .i64 ((k16 : Nat) : Int)), (41, .bool true)]) ⟨rfl, rfl, rfl, rfl, rfl, rfl, rfl, trivial⟩ ?_
                exact EW.join_n ⟨_, rfl, cx, s3, b36, s25, s28, trivial⟩
              · replace hm := cond_f hm hb49
                refine LW.fldB 2 kFld_63_2 rfl (ws 31 rfl (bk rfl hb49)) rfl rfl ?_
                refine LW.loadB1 b36 kOne_24 rfl (ws 31 rfl (bk rfl hb49)) rfl rfl ?_
                refine LW.len kUnd_24 (ws 31 rfl (bk rfl hb49)) rfl rfl ?_
                refine LW.gtr hm (ws 31 rfl (bk rfl hb49)) rfl rfl rfl ?_; clear hm; intro x50 hm
                refine LW.pick_f wn rfl (bk rfl hb49) rfl ?_
                refine LW.move wn rfl rfl ?_
                rcases Bool.eq_false_or_eq_true x50 with hb52 | hb52
                · replace hm := cond_t hm hb52
                  refine LW.skip 37 rfl (bk rfl hb52) rfl rfl ?_
                  refine LW.skip 37 rfl (bk rfl hb52) rfl rfl ?_
                  refine LW.skip 37 rfl (bk rfl hb52) rfl rfl ?_
                  refine LW.pick_t wn rfl (bk rfl hb52) rfl ?_
                  refine LW.nil ?_
                  obtain rfl := Option.some.inj hm
                  refine EW.sub (G := [(0, .slice oa1 a0.length c2), (3, .int .i64 ((k16 : Nat) : Int)), (4, .pointer (some ⟨g29, 0, none⟩)), (10, .slice oa1 a0.length c2), (11, .int .i64 (a0.length : Int)), (12, .int .i64 ((k16 : Nat) : Int)), (41, .bool true)]) ⟨rfl, rfl, rfl, rfl, rfl, rfl, rfl, trivial⟩ ?_
                  exact EW.join_n ⟨_, rfl, cx, s3, b36, s25, s28, trivial⟩
                · replace hm := cond_f hm hb52
                  refine LW.fldB 3 kFld_63_3 rfl (ws 37 rfl (bk rfl hb52)) rfl rfl ?_
                  refine LW.loadB1 b36 kOne_3 rfl (ws 37 rfl (bk rfl hb52)) rfl rfl ?_
                  refine LW.lss hm (ws 37 rfl (bk rfl hb52)) rfl rfl rfl ?_; clear hm; intro x53 hm
                  refine LW.pick_f wn rfl (bk rfl hb52) rfl ?_
                  refine LW.nil ?_
                  obtain rfl := Option.some.inj hm
                  refine EW.sub (G := [(0, .slice oa1 a0.length c2), (3, .int .i64 ((k16 : Nat) : Int)), (4, .pointer (some ⟨g29, 0, none⟩)), (10, .slice oa1 a0.length c2), (11, .int .i64 (a0.length : Int)), (12, .int .i64 ((k16 : Nat) : Int)), (41, .bool x53)]) ⟨rfl, rfl, rfl, rfl, rfl, rfl, rfl, trivial⟩ ?_
                  exact EW.join_n ⟨_, rfl, cx, s3, b36, s25, s28, trivial⟩
        · rintro _ w39 ⟨lab40, rfl, cx, s3, b36, s25, s28, _⟩
          have hm := hm_; clear hm_
          refine EW.seq_n ?_
          refine CW.cond (b := y37) rfl (fun hb54 => ?_) (fun hb54 => ?_)
          · replace hm := cond_t hm hb54
            refine CW.seq ?_
            refine CW.region ?_
            refine LW.assign wn rfl rfl ?_
            refine LW.nil ?_
            refine EW.seq_n ?_
            refine CW.ret ?_
            refine EW.seq_r ?_
            refine EW.block_r ?_
            refine EW.seq_r ?_
            refine EW.join_r ?_
            refine EW.block_r ?_
            refine EW.join_r ?_
            obtain rfl := Option.some.inj hm; have hm := hs9 _ rfl
            refine EW.seq_r ?_
            obtain rfl := Option.some.inj hm
            exact EW.ret1 rfl rfl ⟨rfl, (cx.ste t), trivial⟩
          · replace hm := cond_f hm hb54
            refine CW.skip ?_
            refine EW.seq_n ?_
            refine CW.seq ?_
            refine CW.region ?_
            refine LW.move wn rfl rfl ?_
            refine LW.move wn rfl rfl ?_
            refine LW.slice_h hm s3 kSl_22 wn rfl rfl rfl ?_; clear hm; intro x55 oa56 c57 hm s58
            refine LW.len kUnd_22 wn rfl rfl ?_
            refine LW.move wn rfl rfl ?_
            refine LW.nil ?_
            refine EW.seq_n ?_
            obtain ⟨s60, h61, hs62, hs63⟩ := bndS_some hm; clear hm
            refine CW.join_any (fun F_ w64 => ∃ (y59 : Unit) (lab65 : Lab) , s60 = .inr y59 ∧ F_ = [(0, .slice oa1 a0.length c2), (10, .slice oa1 a0.length c2), (11, .int .i64 (a0.length : Int)), (12, .int .i64 ((k16 : Nat) : Int))] ∧ Cx [] w lab w64 lab65 ∧ SL R_api_Partial lab65 w64 oa1 c2 a0 ∧ True) ?_ ?_
            · have hm := h61; clear h61
              refine CW.block ?_
              refine CW.sub (G := [(0, .slice oa1 a0.length c2), (4, .pointer (some ⟨g29, 0, none⟩)), (10, .slice oa1 a0.length c2), (11, .int .i64 (a0.length : Int)), (12, .int .i64 ((k16 : Nat) : Int)), (44, .slice oa56 x55.length c57), (45, .int .i64 (x55.length : Int)), (46, .int .i64 0)]) ⟨rfl, rfl, rfl, rfl, rfl, rfl, rfl, rfl, trivial⟩ ?_
              refine CW.loop (fun n68 F_ w66 => ∃ (lab67 : Lab) (k69 : Nat) (rem70 : List S_api_Partial)  , n68 = rem70.length ∧ x55.drop k69 = rem70 ∧ F_ = [(0, .slice oa1 a0.length c2), (4, .pointer (some ⟨g29, 0, none⟩)), (10, .slice oa1 a0.length c2), (11, .int .i64 (a0.length : Int)), (12, .int .i64 ((k16 : Nat) : Int)), (44, .slice oa56 x55.length c57), (45, .int .i64 (x55.length : Int)), (46, .int .i64 ((k69 : Nat) : Int))] ∧ Cx [] w lab w66 lab67 ∧ SL R_api_Partial lab67 w66 oa1 c2 a0 ∧ Box lab67 w66 14 g29 63 [.int .i64 x18.Peer, .slice oa23 x18.Key.length c24, .slice oa26 x18.Data.length c27, .int .i64 x18.Until] ∧ SL Rep.u8 lab67 w66 oa23 c24 x18.Key ∧ SL Rep.u8 lab67 w66 oa26 c27 x18.Data ∧ SL R_api_Partial lab67 w66 oa56 c57 x55 ∧ m_coresecref18_Valid_l2 x18 rem70 k69 = some s60) _ ⟨_, 0, x55, rfl, rfl, rfl, cx, s3, b36, s25, s28, s58, hm⟩ ?_
              rintro n68 _ w66 ⟨lab67, k69, rem70, rfl, hd, rfl, cx, s3, b36, s25, s28, s58, hm⟩
              rcases rem70 with _ | ⟨x71, rem70⟩
              · rw [m_coresecref18_Valid_l2] at hm; have hlt := drop_nil hd
                refine CW.seq ?_
                refine CW.region ?_
                refine LW.lss_lit hlt wn rfl rfl rfl ?_
                refine LW.nil ?_
                refine EW.seq_n ?_
                refine CW.seq ?_
                refine CW.cond_f rfl ?_
                refine CW.exit ?_
                refine EW.seq_x ?_
                refine EW.join_x ?_
                refine EW.block_x ?_
                obtain rfl := Option.some.inj hm
                refine EW.sub (G := [(0, .slice oa1 a0.length c2), (10, .slice oa1 a0.length c2), (11, .int .i64 (a0.length : Int)), (12, .int .i64 ((k16 : Nat) : Int))]) ⟨rfl, rfl, rfl, rfl, trivial⟩ ?_
                exact EW.join_n ⟨(), _, rfl, rfl, cx, s3, trivial⟩
              · rw [m_coresecref18_Valid_l2] at hm; obtain ⟨hlt, hix, hd, hlt2⟩ := drop_cons hd
                refine CW.seq ?_
                refine CW.region ?_
                refine LW.lss_lit hlt wn rfl rfl rfl ?_
                refine LW.nil ?_
                refine EW.seq_n ?_
                refine CW.seq ?_
                refine CW.cond_t rfl ?_
                refine CW.skip ?_
                refine EW.seq_n ?_
                refine CW.seq ?_
                refine CW.block ?_
                refine CW.seq ?_
                refine CW.region ?_
                refine LW.index (bnd_ret hix) s58 kSl_22 wn rfl rfl rfl ?_; intro x_ p72 cs73 hx_ hr74 ha75; cases hx_
                obtain ⟨oa76, c77, oa79, c80, rfl, s78, s81, _⟩ := hr74
                refine LW.loadAn ha75 kAgg_63 rfl wn rfl rfl ?_
                refine LW.alloc 16 [.int .i64 0, .slice none 0 0, .slice none 0 0, .int .i64 0] kZero_63 rfl cx.top wn rfl ?_
                intro g82 lab83 w84 e85 b86
                replace cx := cx.step e85 rfl
                replace s3 := s3.step e85
                replace b36 := b36.step e85 rfl
                replace s25 := s25.step e85
                replace s28 := s28.step e85
                replace s58 := s58.step e85
                replace ha75 := ha75.step e85
                replace s78 := s78.step e85
                replace s81 := s81.step e85
                clear e85
                refine LW.storeBn [.int .i64 x71.Peer, .slice oa76 x71.Key.length c77, .slice oa79 x71.Data.length c80, .int .i64 x71.Until] [.int .i64 x71.Peer, .slice oa76 x71.Key.length c77, .slice oa79 x71.Data.length c80, .int .i64 x71.Until] b86 cx.top rfl kAgg_63 rfl rfl rfl rfl wn rfl rfl ?_
                intro w87 e88 b89; clear b86
                replace cx := cx.step e88 rfl
                replace s3 := s3.step e88
                replace b36 := b36.step e88 rfl
                replace s25 := s25.step e88
                replace s28 := s28.step e88
                replace s78 := s78.step e88
                replace s81 := s81.step e88
                replace s58 := s58.step e88
                replace ha75 := ha75.step e88
                clear e88
                refine LW.nil ?_
                refine EW.seq_n ?_
                refine CW.seq ?_
                obtain ⟨y90, h91, hm_⟩ := bnd_some hm; clear hm
                refine CW.join_any (fun F_ w92 => ∃ (lab93 : Lab) , F_ = [(0, .slice oa1 a0.length c2), (4, .pointer (some ⟨g29, 0, none⟩)), (10, .slice oa1 a0.length c2), (11, .int .i64 (a0.length : Int)), (12, .int .i64 ((k16 : Nat) : Int)), (44, .slice oa56 x55.length c57), (45, .int .i64 (x55.length : Int)), (46, .int .i64 ((k69 : Nat) : Int)), (63, .bool y90)] ∧ Cx [] w lab w92 lab93 ∧ SL R_api_Partial lab93 w92 oa1 c2 a0 ∧ Box lab93 w92 14 g29 63 [.int .i64 x18.Peer, .slice oa23 x18.Key.length c24, .slice oa26 x18.Data.length c27, .int .i64 x18.Until] ∧ SL Rep.u8 lab93 w92 oa23 c24 x18.Key ∧ SL Rep.u8 lab93 w92 oa26 c27 x18.Data ∧ SL R_api_Partial lab93 w92 oa56 c57 x55 ∧ True) ?_ ?_
                · have hm := h91; clear h91
                  refine CW.region ?_
                  refine LW.fldB 0 kFld_63_0 rfl wn rfl rfl ?_
                  refine LW.loadB1 b89 kOne_3 rfl wn rfl rfl ?_
                  refine LW.fldB 0 kFld_63_0 rfl wn rfl rfl ?_
                  refine LW.loadB1 b36 kOne_3 rfl wn rfl rfl ?_
                  refine LW.eql hm wn rfl rfl rfl ?_; clear hm; intro x94 hm
                  refine LW.move wn rfl rfl ?_
                  rcases Bool.eq_false_or_eq_true x94 with hb96 | hb96
                  · replace hm := cond_t hm hb96
                    refine LW.fldB 1 kFld_63_1 rfl (ws 55 rfl (bk rfl hb96)) rfl rfl ?_
                    refine LW.loadB1 b89 kOne_24 rfl (ws 55 rfl (bk rfl hb96)) rfl rfl ?_
                    refine LW.b2s (xs := x71.Key) s78 kUnd_24 kUnd_5 kUnd_9 (ws 55 rfl (bk rfl hb96)) rfl rfl ?_
                    refine LW.fldB 1 kFld_63_1 rfl (ws 55 rfl (bk rfl hb96)) rfl rfl ?_
                    refine LW.loadB1 b36 kOne_24 rfl (ws 55 rfl (bk rfl hb96)) rfl rfl ?_
                    refine LW.b2s (xs := x18.Key) s25 kUnd_24 kUnd_5 kUnd_9 (ws 55 rfl (bk rfl hb96)) rfl rfl ?_
                    refine LW.eqs hm (ws 55 rfl (bk rfl hb96)) rfl rfl rfl ?_; clear hm; intro x97 hm
                    refine LW.pick_t wn rfl (bk rfl hb96) rfl ?_
                    refine LW.nil ?_
                    obtain rfl := Option.some.inj hm
                    refine EW.sub (G := [(0, .slice oa1 a0.length c2), (4, .pointer (some ⟨g29, 0, none⟩)), (10, .slice oa1 a0.length c2), (11, .int .i64 (a0.length : Int)), (12, .int .i64 ((k16 : Nat) : Int)), (44, .slice oa56 x55.length c57), (45, .int .i64 (x55.length : Int)), (46, .int .i64 ((k69 : Nat) : Int)), (63, .bool x97)]) ⟨rfl, rfl, rfl, rfl, rfl, rfl, rfl, rfl, rfl, trivial⟩ ?_
                    exact EW.join_n ⟨_, rfl, cx, s3, b36, s25, s28, s58, trivial⟩
                  · replace hm := cond_f hm hb96
                    refine LW.skip 55 rfl (bk rfl hb96) rfl rfl ?_
                    refine LW.skip 55 rfl (bk rfl hb96) rfl rfl ?_
                    refine LW.skip 55 rfl (bk rfl hb96) rfl rfl ?_
                    refine LW.skip 55 rfl (bk rfl hb96) rfl rfl ?_
                    refine LW.skip 55 rfl (bk rfl hb96) rfl rfl ?_
                    refine LW.skip 55 rfl (bk rfl hb96) rfl rfl ?_
                    refine LW.skip 55 rfl (bk rfl hb96) rfl rfl ?_
                    refine LW.pick_f wn rfl (bk rfl hb96) rfl ?_
                    refine LW.nil ?_
                    obtain rfl := Option.some.inj hm
                    refine EW.sub (G := [(0, .slice oa1 a0.length c2), (4, .pointer (some ⟨g29, 0, none⟩)), (10, .slice oa1 a0.length c2), (11, .int .i64 (a0.length : Int)), (12, .int .i64 ((k16 : Nat) : Int)), (44, .slice oa56 x55.length c57), (45, .int .i64 (x55.length : Int)), (46, .int .i64 ((k69 : Nat) : Int)), (63, .bool false)]) ⟨rfl, rfl, rfl, rfl, rfl, rfl, rfl, rfl, rfl, trivial⟩ ?_
                    exact EW.join_n ⟨_, rfl, cx, s3, b36, s25, s28, s58, trivial⟩
                · rintro _ w92 ⟨lab93, rfl, cx, s3, b36, s25, s28, s58, _⟩
                  have hm := hm_; clear hm_
                  refine EW.seq_n ?_
                  refine CW.cond (b := y90) rfl (fun hb98 => ?_) (fun hb98 => ?_)
                  · replace hm := cond_t hm hb98
                    refine CW.seq ?_
                    refine CW.region ?_
                    refine LW.assign wn rfl rfl ?_
                    refine LW.nil ?_
                    refine EW.seq_n ?_
                    refine CW.ret ?_
                    refine EW.block_r ?_
                    refine EW.seq_r ?_
                    refine EW.join_r ?_
                    refine EW.block_r ?_
                    refine EW.join_r ?_
                    obtain rfl := Option.some.inj hm; have hm := hs62 _ rfl
                    refine EW.block_r ?_
                    refine EW.seq_r ?_
                    refine EW.join_r ?_
                    refine EW.block_r ?_
                    refine EW.join_r ?_
                    obtain rfl := Option.some.inj hm; have hm := hs9 _ rfl
                    refine EW.seq_r ?_
                    obtain rfl := Option.some.inj hm
                    exact EW.ret1 rfl rfl ⟨rfl, (cx.ste t), trivial⟩
                  · replace hm := cond_f hm hb98
                    refine CW.skip ?_
                    refine EW.block_n ?_
                    refine EW.seq_n ?_
                    refine CW.region ?_
                    refine LW.add_lit (w64_succ hlt2 s58.le) wn rfl rfl rfl ?_
                    refine LW.move wn rfl rfl ?_
                    refine LW.nil ?_
                    refine EW.sub (G := [(0, .slice oa1 a0.length c2), (4, .pointer (some ⟨g29, 0, none⟩)), (10, .slice oa1 a0.length c2), (11, .int .i64 (a0.length : Int)), (12, .int .i64 ((k16 : Nat) : Int)), (44, .slice oa56 x55.length c57), (45, .int .i64 (x55.length : Int)), (46, .int .i64 ((k69 + 1 : Nat) : Int))]) ⟨rfl, rfl, rfl, rfl, rfl, rfl, rfl, rfl, trivial⟩ ?_
                    exact EW.join_n ⟨_, Nat.lt_succ_self _, _, k69 + 1, rem70, rfl, hd, rfl, cx, s3, b36, s25, s28, s58, hm⟩
            · rintro _ w64 ⟨y59, lab65, hsr_, rfl, cx, s3, _⟩
              have hm := hs63 _ hsr_; clear hsr_
              refine EW.block_n ?_
              refine EW.seq_n ?_
              refine CW.region ?_
              refine LW.add_lit (w64_succ hlt2 s3.le) wn rfl rfl rfl ?_
              refine LW.move wn rfl rfl ?_
              refine LW.nil ?_
              refine EW.sub (G := [(0, .slice oa1 a0.length c2), (10, .slice oa1 a0.length c2), (11, .int .i64 (a0.length : Int)), (12, .int .i64 ((k16 + 1 : Nat) : Int))]) ⟨rfl, rfl, rfl, rfl, trivial⟩ ?_
              exact EW.join_n ⟨_, Nat.lt_succ_self _, _, k16 + 1, rem17, rfl, hd, rfl, cx, s3, hm⟩
    · rintro _ w11 ⟨y6, lab12, hsr_, rfl, cx, _⟩
      have hm := hs10 _ hsr_; clear hsr_
      refine EW.seq_n ?_
      refine CW.seq ?_
      refine CW.region ?_
      refine LW.assign wn rfl rfl ?_
      refine LW.nil ?_
      refine EW.seq_n ?_
      refine CW.ret ?_
      obtain rfl := Option.some.inj hm
      exact EW.ret1 rfl rfl ⟨rfl, (cx.ste t), trivial⟩
set_option linter.unusedVariables false in
def m_coresecref18_valid (a0 : S_api_Block) : Option (Bool) :=
  bnd (letm (decide (0 ≤ a0.Num)) fun x10 =>
  (cond x10 (letm (decide (a0.Num < 1048576)) fun x13 =>
  (cond x13 (letm (decide (0 ≤ a0.Size)) fun x16 =>
  (cond x16 (letm (decide (a0.Size ≤ 6)) fun x19 =>
  some (x19))
   (some (false))))
   (some (false))))
   (some (false))) : Option (Bool)) fun y6 =>
  some y6
set_option maxRecDepth 100000 in
set_option maxHeartbeats 2000000 in
theorem c_coresecref18_valid {lab : Lab} {w : World} {a0 : S_api_Block} {r : Bool} (hm : m_coresecref18_valid a0 = some r) (t : Top lab w) : Calls Try.prog 34 [.agg ([.int .i64 a0.Num, .bool a0.More, .int .i64 a0.Size] : List Value).toArray].toArray w (fun e w' => e = .returned (.bool r) ∧ Ste lab 0 w lab w' ∧ True) := by
  refine enter Try.func34 rfl 21 rfl rfl ?_
  have cx := Cx.start t
  refine CW.sub (G := [(0, .agg ([.int .i64 a0.Num, .bool a0.More, .int .i64 a0.Size] : List Value).toArray)]) ⟨rfl, trivial⟩ ?_
  unfold m_coresecref18_valid at hm
  refine CW.seq ?_
  refine CW.region ?_
  refine LW.box 11 [.int .i64 a0.Num, .bool a0.More, .int .i64 a0.Size] rfl rfl cx.top wn rfl ?_
  intro g1 lab2 w3 e4 b5
  replace cx := cx.step e4 rfl
  clear e4
  refine LW.assign wn rfl rfl ?_
  refine LW.nil ?_
  refine EW.seq_n ?_
  refine CW.seq ?_
  obtain ⟨y6, h7, hm_⟩ := bnd_some hm; clear hm
  refine CW.join_any (fun F_ w8 => ∃ (lab9 : Lab) , F_ = [(2, .bool y6)] ∧ Cx [] w lab w8 lab9 ∧ True) ?_ ?_
  · have hm := h7; clear h7
    refine CW.region ?_
    refine LW.fldB 0 kFld_26_0 rfl wn rfl rfl ?_
    refine LW.loadB1 b5 kOne_3 rfl wn rfl rfl ?_
    refine LW.geq hm wn rfl rfl rfl ?_; clear hm; intro x10 hm
    refine LW.move wn rfl rfl ?_
    rcases Bool.eq_false_or_eq_true x10 with hb12 | hb12
    · replace hm := cond_t hm hb12
      refine LW.fldB 0 kFld_26_0 rfl (ws 6 rfl (bk rfl hb12)) rfl rfl ?_
      refine LW.loadB1 b5 kOne_3 rfl (ws 6 rfl (bk rfl hb12)) rfl rfl ?_
      refine LW.lss hm (ws 6 rfl (bk rfl hb12)) rfl rfl rfl ?_; clear hm; intro x13 hm
      refine LW.pick_t wn rfl (bk rfl hb12) rfl ?_
      refine LW.move wn rfl rfl ?_
      rcases Bool.eq_false_or_eq_true x13 with hb15 | hb15
      · replace hm := cond_t hm hb15
        refine LW.fldB 2 kFld_26_2 rfl (ws 11 rfl (bk rfl hb15)) rfl rfl ?_
        refine LW.loadB1 b5 kOne_3 rfl (ws 11 rfl (bk rfl hb15)) rfl rfl ?_
        refine LW.geq hm (ws 11 rfl (bk rfl hb15)) rfl rfl rfl ?_; clear hm; intro x16 hm
        refine LW.pick_t wn rfl (bk rfl hb15) rfl ?_
        refine LW.move wn rfl rfl ?_
        rcases Bool.eq_false_or_eq_true x16 with hb18 | hb18
        · replace hm := cond_t hm hb18
          refine LW.fldB 2 kFld_26_2 rfl (ws 16 rfl (bk rfl hb18)) rfl rfl ?_
          refine LW.loadB1 b5 kOne_3 rfl (ws 16 rfl (bk rfl hb18)) rfl rfl ?_
          refine LW.leq hm (ws 16 rfl (bk rfl hb18)) rfl rfl rfl ?_; clear hm; intro x19 hm
          refine LW.pick_t wn rfl (bk rfl hb18) rfl ?_
          refine LW.assign wn rfl rfl ?_
          refine LW.nil ?_
          obtain rfl := Option.some.inj hm
          refine EW.sub (G := [(2, .bool x19)]) ⟨rfl, trivial⟩ ?_
          exact EW.join_n ⟨_, rfl, cx, trivial⟩
        · replace hm := cond_f hm hb18
          refine LW.skip 16 rfl (bk rfl hb18) rfl rfl ?_
          refine LW.skip 16 rfl (bk rfl hb18) rfl rfl ?_
          refine LW.skip 16 rfl (bk rfl hb18) rfl rfl ?_
          refine LW.pick_f wn rfl (bk rfl hb18) rfl ?_
          refine LW.assign wn rfl rfl ?_
          refine LW.nil ?_
          obtain rfl := Option.some.inj hm
          refine EW.sub (G := [(2, .bool false)]) ⟨rfl, trivial⟩ ?_
          exact EW.join_n ⟨_, rfl, cx, trivial⟩
      · replace hm := cond_f hm hb15
        refine LW.skip 11 rfl (bk rfl hb15) rfl rfl ?_
        refine LW.skip 11 rfl (bk rfl hb15) rfl rfl ?_
        refine LW.skip 11 rfl (bk rfl hb15) rfl rfl ?_
        refine LW.pick_f wn rfl (bk rfl hb15) rfl ?_
        refine LW.move wn rfl rfl ?_
        refine LW.skip 16 rfl rfl rfl rfl ?_
        refine LW.skip 16 rfl rfl rfl rfl ?_
        refine LW.skip 16 rfl rfl rfl rfl ?_
        refine LW.pick_f wn rfl rfl rfl ?_
        refine LW.assign wn rfl rfl ?_
        refine LW.nil ?_
        obtain rfl := Option.some.inj hm
        refine EW.sub (G := [(2, .bool false)]) ⟨rfl, trivial⟩ ?_
        exact EW.join_n ⟨_, rfl, cx, trivial⟩
    · replace hm := cond_f hm hb12
      refine LW.skip 6 rfl (bk rfl hb12) rfl rfl ?_
      refine LW.skip 6 rfl (bk rfl hb12) rfl rfl ?_
      refine LW.skip 6 rfl (bk rfl hb12) rfl rfl ?_
      refine LW.pick_f wn rfl (bk rfl hb12) rfl ?_
      refine LW.move wn rfl rfl ?_
      refine LW.skip 11 rfl rfl rfl rfl ?_
      refine LW.skip 11 rfl rfl rfl rfl ?_
      refine LW.skip 11 rfl rfl rfl rfl ?_
      refine LW.pick_f wn rfl rfl rfl ?_
      refine LW.move wn rfl rfl ?_
      refine LW.skip 16 rfl rfl rfl rfl ?_
      refine LW.skip 16 rfl rfl rfl rfl ?_
      refine LW.skip 16 rfl rfl rfl rfl ?_
      refine LW.pick_f wn rfl rfl rfl ?_
      refine LW.assign wn rfl rfl ?_
      refine LW.nil ?_
      obtain rfl := Option.some.inj hm
      refine EW.sub (G := [(2, .bool false)]) ⟨rfl, trivial⟩ ?_
      exact EW.join_n ⟨_, rfl, cx, trivial⟩
  · rintro _ w8 ⟨lab9, rfl, cx, _⟩
    have hm := hm_; clear hm_
    refine EW.seq_n ?_
    refine CW.ret ?_
    obtain rfl := Option.some.inj hm
    exact EW.ret1 rfl rfl ⟨rfl, (cx.ste t), trivial⟩
set_option linter.unusedVariables false in
def m_coresecref18_length (a0 : Int) : Option (Int) :=
  letm (toU64 a0) fun x1 =>
  bnd (Gk.shl 16 (x1.toNat : Int)) fun x2 =>
  some x2
set_option maxRecDepth 100000 in
set_option maxHeartbeats 2000000 in
theorem c_coresecref18_length {lab : Lab} {w : World} {a0 : Int} {r : Int} (hm : m_coresecref18_length a0 = some r) (t : Top lab w) : Calls Try.prog 35 [.int .i64 a0].toArray w (fun e w' => e = .returned (.int .i64 r) ∧ Ste lab 0 w lab w' ∧ True) := by
  refine enter Try.func35 rfl 6 rfl rfl ?_
  have cx := Cx.start t
  refine CW.sub (G := [(0, .int .i64 a0)]) ⟨rfl, trivial⟩ ?_
  unfold m_coresecref18_length at hm
  refine CW.seq ?_
  refine CW.region ?_
  refine LW.assign wn rfl rfl ?_
  refine LW.nil ?_
  refine EW.seq_n ?_
  refine CW.seq ?_
  refine CW.region ?_
  refine LW.move wn rfl rfl ?_
  refine LW.cvt_u64 hm kIs_3 kInt_37 wn rfl rfl ?_; clear hm; intro x1 hm
  refine LW.shl hm wn rfl rfl rfl ?_; clear hm; intro x2 hm
  refine LW.assign wn rfl rfl ?_
  refine LW.nil ?_
  refine EW.seq_n ?_
  refine CW.ret ?_
  obtain rfl := Option.some.inj hm
  exact EW.ret1 rfl rfl ⟨rfl, (cx.ste t), trivial⟩
end Go.Proofs.Ytaefnnamjphieaa
