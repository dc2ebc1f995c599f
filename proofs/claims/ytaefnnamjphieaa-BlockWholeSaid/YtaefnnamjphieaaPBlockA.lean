/-
  Package block: models of its functions, and that the functions compute them. No condition but that the model has a value.
-/
import Derived.Test.YtaefnnamjphieaaPBlock
namespace Go.Proofs.Ytaefnnamjphieaa
open Go.Gk Go.RowKit
set_option linter.unusedVariables false in
def m_block_Valid_l1 (a0 : List S_api_Partial) : List S_api_Partial → Nat → Option (Bool ⊕ Unit)
    | [], k16 => some (Sum.inr ())
    | x18 :: rem17, k16 => bnd (letm (decide (x18.Peer < 0)) fun x43 =>
  (cond x43 (some (true))
   (letm (decide (65536 < x18.Peer)) fun x68 =>
  (cond x68 (some (true))
   (letm (decide (4096 < (x18.Key.length : Int))) fun x94 =>
  (cond x94 (some (true))
   (letm (decide (4096 < (x18.Data.length : Int))) fun x117 =>
  (cond x117 (some (true))
   (letm (decide (x18.Until < 0)) fun x135 =>
  (cond x135 (some (true))
   (bnd (cut a0 0 ((k16 : Nat) : Int)) fun x150 =>
  bnd (m_block_find x150 x18.Peer x18.Key) fun y167 =>
  letm (decide (0 ≤ y167)) fun x173 =>
  some (x173))))))))))) : Option (Bool)) fun y37 =>
  (cond y37 (some (Sum.inl false))
   (m_block_Valid_l1 a0 rem17 (k16 + 1)))
set_option linter.unusedVariables false in
def m_block_Valid (a0 : List S_api_Partial) : Option (Bool) :=
  letm (decide (4 < (a0.length : Int))) fun x4 =>
  (cond x4 (some false)
   (bndS (m_block_Valid_l1 a0 a0 0 : Option (Bool ⊕ Unit)) (fun q => q) fun y6 =>
  some true))
set_option maxRecDepth 100000 in
set_option maxHeartbeats 2000000 in
theorem c_block_Valid {lab : Lab} {w : World} {a0 : List S_api_Partial} {r : Bool} (hm : m_block_Valid a0 = some r) (t : Top lab w) {oa1 : Option Addr} {c2 : Nat} (s3 : SL R_api_Partial lab w oa1 c2 a0) : Calls Try.prog 14 [.slice oa1 a0.length c2].toArray w (fun e w' => e = .returned (.bool r) ∧ Ste lab 0 w lab w' ∧ True) := by
  refine enter Try.func14 rfl 52 rfl rfl ?_
  have cx := Cx.start t
  replace s3 := s3.keep Keeps.lin
  refine CW.sub (G := [(0, .slice oa1 a0.length c2)]) ⟨rfl, trivial⟩ ?_
  unfold m_block_Valid at hm
  refine CW.seq ?_
  refine CW.region ?_
  refine LW.assign wn rfl rfl ?_
  refine LW.nil ?_
  refine EW.seq_n ?_
  refine CW.seq ?_
  refine CW.seq ?_
  refine CW.region ?_
  refine LW.move wn rfl rfl ?_
  refine LW.len kUnd_22 wn rfl rfl ?_
  refine LW.gtr hm wn rfl rfl rfl ?_; clear hm; intro x4 hm
  refine LW.nil ?_
  refine EW.seq_n ?_
  refine CW.cond (b := x4) rfl (fun hb5 => ?_) (fun hb5 => ?_)
  · replace hm := cond_t hm hb5
    refine CW.seq ?_
    refine CW.region ?_
    refine LW.assign wn rfl rfl ?_
    refine LW.nil ?_
    refine EW.seq_n ?_
    refine CW.ret ?_
    refine EW.seq_r ?_
    obtain rfl := Option.some.inj hm
    exact EW.ret1 rfl rfl ⟨rfl, (cx.ste t), trivial⟩
  · replace hm := cond_f hm hb5
    refine CW.skip ?_
    refine EW.seq_n ?_
    refine CW.seq ?_
    refine CW.seq ?_
    refine CW.region ?_
    refine LW.move wn rfl rfl ?_
    refine LW.len kUnd_22 wn rfl rfl ?_
    refine LW.move wn rfl rfl ?_
    refine LW.nil ?_
    refine EW.seq_n ?_
    obtain ⟨s7, h8, hs9, hs10⟩ := bndS_some hm; clear hm
    refine CW.join_any (fun F_ w11 => ∃ (y6 : Unit) (lab12 : Lab) , s7 = .inr y6 ∧ F_ = [] ∧ Cx [] w lab w11 lab12 ∧ True) ?_ ?_
    · have hm := h8; clear h8
      refine CW.block ?_
      refine CW.sub (G := [(0, .slice oa1 a0.length c2), (8, .slice oa1 a0.length c2), (9, .int .i64 (a0.length : Int)), (10, .int .i64 0)]) ⟨rfl, rfl, rfl, rfl, trivial⟩ ?_
      refine CW.loop (fun n15 F_ w13 => ∃ (lab14 : Lab) (k16 : Nat) (rem17 : List S_api_Partial)  , n15 = rem17.length ∧ a0.drop k16 = rem17 ∧ F_ = [(0, .slice oa1 a0.length c2), (8, .slice oa1 a0.length c2), (9, .int .i64 (a0.length : Int)), (10, .int .i64 ((k16 : Nat) : Int))] ∧ Cx [] w lab w13 lab14 ∧ SL R_api_Partial lab14 w13 oa1 c2 a0 ∧ m_block_Valid_l1 a0 rem17 k16 = some s7) _ ⟨_, 0, a0, rfl, rfl, rfl, cx, s3, hm⟩ ?_
      rintro n15 _ w13 ⟨lab14, k16, rem17, rfl, hd, rfl, cx, s3, hm⟩
      rcases rem17 with _ | ⟨x18, rem17⟩
      · rw [m_block_Valid_l1] at hm; have hlt := drop_nil hd
        refine CW.seq ?_
        refine CW.region ?_
        refine LW.lss_lit hlt wn rfl rfl rfl ?_
        refine LW.nil ?_
        refine EW.seq_n ?_
        refine CW.seq ?_
        refine CW.cond_f rfl ?_
        refine CW.exit ?_
        refine EW.seq_x ?_
        refine EW.join_x ?_
        refine EW.block_x ?_
        obtain rfl := Option.some.inj hm
        refine EW.sub (G := []) trivial ?_
        exact EW.join_n ⟨(), _, rfl, rfl, cx, trivial⟩
      · rw [m_block_Valid_l1] at hm; obtain ⟨hlt, hix, hd, hlt2⟩ := drop_cons hd
        refine CW.seq ?_
        refine CW.region ?_
        refine LW.lss_lit hlt wn rfl rfl rfl ?_
        refine LW.nil ?_
        refine EW.seq_n ?_
        refine CW.seq ?_
        refine CW.cond_t rfl ?_
        refine CW.skip ?_
        refine EW.seq_n ?_
        refine CW.seq ?_
        refine CW.block ?_
        refine CW.seq ?_
        refine CW.region ?_
        refine LW.move wn rfl rfl ?_
        refine LW.index (bnd_ret hix) s3 kSl_22 wn rfl rfl rfl ?_; intro x_ p19 cs20 hx_ hr21 ha22; cases hx_
        obtain ⟨oa23, c24, oa26, c27, rfl, s25, s28, _⟩ := hr21
        refine LW.loadAn ha22 kAgg_63 rfl wn rfl rfl ?_
        refine LW.alloc 14 [.int .i64 0, .slice none 0 0, .slice none 0 0, .int .i64 0] kZero_63 rfl cx.top wn rfl ?_
        intro g29 lab30 w31 e32 b33
        replace cx := cx.step e32 rfl
        replace s3 := s3.step e32
        replace ha22 := ha22.step e32
        replace s25 := s25.step e32
        replace s28 := s28.step e32
        clear e32
        refine LW.assign wn rfl rfl ?_
        refine LW.storeBn [.int .i64 x18.Peer, .slice oa23 x18.Key.length c24, .slice oa26 x18.Data.length c27, .int .i64 x18.Until] [.int .i64 x18.Peer, .slice oa23 x18.Key.length c24, .slice oa26 x18.Data.length c27, .int .i64 x18.Until] b33 cx.top rfl kAgg_63 rfl rfl rfl rfl wn rfl rfl ?_
        intro w34 e35 b36; clear b33
        replace cx := cx.step e35 rfl
        replace s3 := s3.step e35
        replace s25 := s25.step e35
        replace s28 := s28.step e35
        replace ha22 := ha22.step e35
        clear e35
        refine LW.nil ?_
        refine EW.seq_n ?_
        refine CW.seq ?_
        obtain ⟨y37, h38, hm_⟩ := bnd_some hm; clear hm
        refine CW.join_any (fun F_ w39 => ∃ (lab40 : Lab) , F_ = [(0, .slice oa1 a0.length c2), (8, .slice oa1 a0.length c2), (9, .int .i64 (a0.length : Int)), (10, .int .i64 ((k16 : Nat) : Int)), (50, .bool y37)] ∧ Cx [] w lab w39 lab40 ∧ SL R_api_Partial lab40 w39 oa1 c2 a0 ∧ True) ?_ ?_
        · have hm := h38; clear h38
          obtain ⟨x43, hx_x43, hm_⟩ := letm_some hm; clear hm; have hm := hm_; clear hm_
          rcases Bool.eq_false_or_eq_true x43 with hb45 | hb45
          · replace hm := cond_t hm hb45
            refine CW.sub (G := [(0, .slice oa1 a0.length c2), (3, .int .i64 ((k16 : Nat) : Int)), (4, .pointer (some ⟨g29, 0, none⟩)), (8, .slice oa1 a0.length c2), (9, .int .i64 (a0.length : Int)), (10, .int .i64 ((k16 : Nat) : Int))]) ⟨rfl, rfl, rfl, rfl, rfl, rfl, trivial⟩ ?_
            refine CW.drawL (fun i_ => []) (fun i_ => by (try dsimp only); (repeat' split) <;> rfl) kMix_ 36 (by kernel_rfl) cx.top ?_
            intro w60 e61
            replace cx := cx.step e61 rfl
            replace s3 := s3.step e61
            replace b36 := b36.step e61 rfl
            replace s25 := s25.step e61
            replace s28 := s28.step e61
            clear e61
            refine ⟨[(fun L_ lab_ w_ v_ => v_ = .pointer (some ⟨g29, 0, none⟩) ∧ True),
    (fun L_ lab_ w_ v_ => v_ = .int .i64 x18.Peer ∧ True),
    (fun L_ lab_ w_ v_ => v_ = .bool x43 ∧ True),
    (fun L_ lab_ w_ v_ => v_ = .bool x43 ∧ True),
    (fun L_ lab_ w_ v_ => v_ = undef ∧ True),
    (fun L_ lab_ w_ v_ => v_ = undef ∧ True),
    (fun L_ lab_ w_ v_ => v_ = undef ∧ True),
    (fun L_ lab_ w_ v_ => v_ = .bool true ∧ True),
    (fun L_ lab_ w_ v_ => v_ = .bool true ∧ True),
    (fun L_ lab_ w_ v_ => v_ = undef ∧ True),
    (fun L_ lab_ w_ v_ => v_ = undef ∧ True),
    (fun L_ lab_ w_ v_ => v_ = undef ∧ True),
    (fun L_ lab_ w_ v_ => v_ = undef ∧ True),
    (fun L_ lab_ w_ v_ => v_ = .bool true ∧ True),
    (fun L_ lab_ w_ v_ => v_ = .bool true ∧ True),
    (fun L_ lab_ w_ v_ => v_ = undef ∧ True),
    (fun L_ lab_ w_ v_ => v_ = undef ∧ True),
    (fun L_ lab_ w_ v_ => v_ = undef ∧ True),
    (fun L_ lab_ w_ v_ => v_ = undef ∧ True),
    (fun L_ lab_ w_ v_ => v_ = .bool true ∧ True),
    (fun L_ lab_ w_ v_ => v_ = .bool true ∧ True),
    (fun L_ lab_ w_ v_ => v_ = undef ∧ True),
    (fun L_ lab_ w_ v_ => v_ = undef ∧ True),
    (fun L_ lab_ w_ v_ => v_ = undef ∧ True),
    (fun L_ lab_ w_ v_ => v_ = .bool true ∧ True),
    (fun L_ lab_ w_ v_ => v_ = .bool true ∧ True),
    (fun L_ lab_ w_ v_ => v_ = undef ∧ True),
    (fun L_ lab_ w_ v_ => v_ = undef ∧ True),
    (fun L_ lab_ w_ v_ => v_ = undef ∧ True),
    (fun L_ lab_ w_ v_ => v_ = undef ∧ True),
    (fun L_ lab_ w_ v_ => v_ = undef ∧ True),
    (fun L_ lab_ w_ v_ => v_ = undef ∧ True),
    (fun L_ lab_ w_ v_ => v_ = undef ∧ True),
    (fun L_ lab_ w_ v_ => v_ = undef ∧ True),
    (fun L_ lab_ w_ v_ => v_ = undef ∧ True),
    (fun L_ lab_ w_ v_ => v_ = .bool true ∧ True)], (fun L_ lab_ w_ => Cx [] w lab w_ lab_ ∧ SL R_api_Partial lab_ w_ oa1 c2 a0 ∧ Box lab_ w_ 14 g29 63 [.int .i64 x18.Peer, .slice oa23 x18.Key.length c24, .slice oa26 x18.Data.length c27, .int .i64 x18.Until] ∧ SL Rep.u8 lab_ w_ oa23 c24 x18.Key ∧ SL Rep.u8 lab_ w_ oa26 c27 x18.Data ∧ True), ?_, ⟨cx, s3, b36, s25, s28, trivial⟩, ?_, ?_⟩
            · exact ⟨by rintro i_ L_ lab_ w_ lab2_ w2_ v_ hne_ hd_ hk_ hp_ ⟨hv_, _⟩; exact ⟨hv_, trivial⟩, by rintro i_ L_ lab_ w_ lab2_ w2_ v_ hne_ hd_ hk_ hp_ ⟨hv_, _⟩; exact ⟨hv_, trivial⟩, by rintro i_ L_ lab_ w_ lab2_ w2_ v_ hne_ hd_ hk_ hp_ ⟨hv_, _⟩; exact ⟨hv_, trivial⟩, by rintro i_ L_ lab_ w_ lab2_ w2_ v_ hne_ hd_ hk_ hp_ ⟨hv_, _⟩; exact ⟨hv_, trivial⟩, by rintro i_ L_ lab_ w_ lab2_ w2_ v_ hne_ hd_ hk_ hp_ ⟨hv_, _⟩; exact ⟨hv_, trivial⟩, by rintro i_ L_ lab_ w_ lab2_ w2_ v_ hne_ hd_ hk_ hp_ ⟨hv_, _⟩; exact ⟨hv_, trivial⟩, by rintro i_ L_ lab_ w_ lab2_ w2_ v_ hne_ hd_ hk_ hp_ ⟨hv_, _⟩; exact ⟨hv_, trivial⟩, by rintro i_ L_ lab_ w_ lab2_ w2_ v_ hne_ hd_ hk_ hp_ ⟨hv_, _⟩; exact ⟨hv_, trivial⟩, by rintro i_ L_ lab_ w_ lab2_ w2_ v_ hne_ hd_ hk_ hp_ ⟨hv_, _⟩; exact ⟨hv_, trivial⟩, by rintro i_ L_ lab_ w_ lab2_ w2_ v_ hne_ hd_ hk_ hp_ ⟨hv_, _⟩; exact ⟨hv_, trivial⟩, by rintro i_ L_ lab_ w_ lab2_ w2_ v_ hne_ hd_ hk_ hp_ ⟨hv_, _⟩; exact ⟨hv_, trivial⟩, by rintro i_ L_ lab_ w_ lab2_ w2_ v_ hne_ hd_ hk_ hp_ ⟨hv_, _⟩; exact ⟨hv_, trivial⟩, by rintro i_ L_ lab_ w_ lab2_ w2_ v_ hne_ hd_ hk_ hp_ ⟨hv_, _⟩; exact ⟨hv_, trivial⟩, by rintro i_ L_ lab_ w_ lab2_ w2_ v_ hne_ hd_ hk_ hp_ ⟨hv_, _⟩; exact ⟨hv_, trivial⟩, by rintro i_ L_ lab_ w_ lab2_ w2_ v_ hne_ hd_ hk_ hp_ ⟨hv_, _⟩; exact ⟨hv_, trivial⟩, by rintro i_ L_ lab_ w_ lab2_ w2_ v_ hne_ hd_ hk_ hp_ ⟨hv_, _⟩; exact ⟨hv_, trivial⟩, by rintro i_ L_ lab_ w_ lab2_ w2_ v_ hne_ hd_ hk_ hp_ ⟨hv_, _⟩; exact ⟨hv_, trivial⟩, by rintro i_ L_ lab_ w_ lab2_ w2_ v_ hne_ hd_ hk_ hp_ ⟨hv_, _⟩; exact ⟨hv_, trivial⟩, by rintro i_ L_ lab_ w_ lab2_ w2_ v_ hne_ hd_ hk_ hp_ ⟨hv_, _⟩; exact ⟨hv_, trivial⟩, by rintro i_ L_ lab_ w_ lab2_ w2_ v_ hne_ hd_ hk_ hp_ ⟨hv_, _⟩; exact ⟨hv_, trivial⟩, by rintro i_ L_ lab_ w_ lab2_ w2_ v_ hne_ hd_ hk_ hp_ ⟨hv_, _⟩; exact ⟨hv_, trivial⟩, by rintro i_ L_ lab_ w_ lab2_ w2_ v_ hne_ hd_ hk_ hp_ ⟨hv_, _⟩; exact ⟨hv_, trivial⟩, by rintro i_ L_ lab_ w_ lab2_ w2_ v_ hne_ hd_ hk_ hp_ ⟨hv_, _⟩; exact ⟨hv_, trivial⟩, by rintro i_ L_ lab_ w_ lab2_ w2_ v_ hne_ hd_ hk_ hp_ ⟨hv_, _⟩; exact ⟨hv_, trivial⟩, by rintro i_ L_ lab_ w_ lab2_ w2_ v_ hne_ hd_ hk_ hp_ ⟨hv_, _⟩; exact ⟨hv_, trivial⟩, by rintro i_ L_ lab_ w_ lab2_ w2_ v_ hne_ hd_ hk_ hp_ ⟨hv_, _⟩; exact ⟨hv_, trivial⟩, by rintro i_ L_ lab_ w_ lab2_ w2_ v_ hne_ hd_ hk_ hp_ ⟨hv_, _⟩; exact ⟨hv_, trivial⟩, by rintro i_ L_ lab_ w_ lab2_ w2_ v_ hne_ hd_ hk_ hp_ ⟨hv_, _⟩; exact ⟨hv_, trivial⟩, by rintro i_ L_ lab_ w_ lab2_ w2_ v_ hne_ hd_ hk_ hp_ ⟨hv_, _⟩; exact ⟨hv_, trivial⟩, by rintro i_ L_ lab_ w_ lab2_ w2_ v_ hne_ hd_ hk_ hp_ ⟨hv_, _⟩; exact ⟨hv_, trivial⟩, by rintro i_ L_ lab_ w_ lab2_ w2_ v_ hne_ hd_ hk_ hp_ ⟨hv_, _⟩; exact ⟨hv_, trivial⟩, by rintro i_ L_ lab_ w_ lab2_ w2_ v_ hne_ hd_ hk_ hp_ ⟨hv_, _⟩; exact ⟨hv_, trivial⟩, by rintro i_ L_ lab_ w_ lab2_ w2_ v_ hne_ hd_ hk_ hp_ ⟨hv_, _⟩; exact ⟨hv_, trivial⟩, by rintro i_ L_ lab_ w_ lab2_ w2_ v_ hne_ hd_ hk_ hp_ ⟨hv_, _⟩; exact ⟨hv_, trivial⟩, by rintro i_ L_ lab_ w_ lab2_ w2_ v_ hne_ hd_ hk_ hp_ ⟨hv_, _⟩; exact ⟨hv_, trivial⟩, by rintro i_ L_ lab_ w_ lab2_ w2_ v_ hne_ hd_ hk_ hp_ ⟨hv_, _⟩; exact ⟨hv_, trivial⟩, trivial⟩
            · refine (ob_succ (ob_succ (ob_succ (ob_succ (ob_succ (ob_succ (ob_succ (ob_succ (ob_succ (ob_succ (ob_succ (ob_succ (ob_succ (ob_succ (ob_succ (ob_succ (ob_succ (ob_succ (ob_succ (ob_succ (ob_succ (ob_succ (ob_succ (ob_succ (ob_succ (ob_succ (ob_succ (ob_succ (ob_succ (ob_succ (ob_succ (ob_succ (ob_succ (ob_succ (ob_succ (ob_succ ob_nil ?_) ?_) ?_) ?_) ?_) ?_) ?_) ?_) ?_) ?_) ?_) ?_) ?_) ?_) ?_) ?_) ?_) ?_) ?_) ?_) ?_) ?_) ?_) ?_) ?_) ?_) ?_) ?_) ?_) ?_) ?_) ?_) ?_) ?_) ?_) ?_)
              · intro o_ L_ F_ lab_ w_ ho_ hL_ hw_ hcl_ hb_ hr_ hq_; obtain rfl := Option.some.inj (ho_ : some _ = some o_); obtain ⟨cx, s3, b36, s25, s28, _⟩ := hq_
                have hl4 := hb_ 4 _ rfl
                refine LW.fldB 0 kFld_63_0 rfl wn rfl hl4 ?_
                refine LW.nil ?_; intro a_ ha_
                exact ⟨rfl, _, _, ha_, ⟨rfl, trivial⟩, Ke.refl, cx, s3, b36, s25, s28, trivial⟩
              · intro o_ L_ F_ lab_ w_ ho_ hL_ hw_ hcl_ hb_ hr_ hq_; obtain rfl := Option.some.inj (ho_ : some _ = some o_); obtain ⟨cx, s3, b36, s25, s28, _⟩ := hq_
                obtain ⟨q41, hl15, rfl, _⟩ := hr_ 0 (by decide) (hw_ 0 (by kernel_rfl))
                replace hl15 : Gk.look F_ 15 = some (.pointer (some ⟨g29, 0, none⟩)) := hl15
                refine LW.loadB1 b36 kOne_3 rfl wn rfl hl15 ?_
                refine LW.nil ?_; intro a_ ha_
                exact ⟨rfl, _, _, ha_, ⟨rfl, trivial⟩, Ke.refl, cx, s3, b36, s25, s28, trivial⟩
              · intro o_ L_ F_ lab_ w_ ho_ hL_ hw_ hcl_ hb_ hr_ hq_; obtain rfl := Option.some.inj (ho_ : some _ = some o_); obtain ⟨cx, s3, b36, s25, s28, _⟩ := hq_
                obtain ⟨q42, hl16, rfl, _⟩ := hr_ 1 (by decide) (hw_ 1 (by kernel_rfl))
                replace hl16 : Gk.look F_ 16 = some (.int .i64 x18.Peer) := hl16
                refine LW.lss (letm_eq hx_x43) wn rfl hl16 rfl ?_; intro x_ hx_; cases hx_
                refine LW.nil ?_; intro a_ ha_
                exact ⟨rfl, _, _, ha_, ⟨rfl, trivial⟩, Ke.refl, cx, s3, b36, s25, s28, trivial⟩
              · intro o_ L_ F_ lab_ w_ ho_ hL_ hw_ hcl_ hb_ hr_ hq_; obtain rfl := Option.some.inj (ho_ : some _ = some o_); obtain ⟨cx, s3, b36, s25, s28, _⟩ := hq_
                obtain ⟨q44, hl17, rfl, _⟩ := hr_ 2 (by decide) (hw_ 2 (by kernel_rfl))
                replace hl17 : Gk.look F_ 17 = some (.bool x43) := hl17
                refine LW.move wn rfl hl17 ?_
                refine LW.nil ?_; intro a_ ha_
                exact ⟨rfl, _, _, ha_, ⟨rfl, trivial⟩, Ke.refl, cx, s3, b36, s25, s28, trivial⟩
              · exact ob_skip (b' := true) 3 rfl (by kernel_rfl) (by decide) ⟨_, rfl⟩ (fun _ _ _ _ h_ => .inl (h_.1.trans (congrArg Value.bool hb45))) rfl rfl (fun _ _ _ => ⟨rfl, trivial⟩) (fun _ _ _ h_ => h_)
              · exact ob_skip (b' := true) 3 rfl (by kernel_rfl) (by decide) ⟨_, rfl⟩ (fun _ _ _ _ h_ => .inl (h_.1.trans (congrArg Value.bool hb45))) rfl rfl (fun _ _ _ => ⟨rfl, trivial⟩) (fun _ _ _ h_ => h_)
              · exact ob_skip (b' := true) 3 rfl (by kernel_rfl) (by decide) ⟨_, rfl⟩ (fun _ _ _ _ h_ => .inl (h_.1.trans (congrArg Value.bool hb45))) rfl rfl (fun _ _ _ => ⟨rfl, trivial⟩) (fun _ _ _ h_ => h_)
              · intro o_ L_ F_ lab_ w_ ho_ hL_ hw_ hcl_ hb_ hr_ hq_; obtain rfl := Option.some.inj (ho_ : some _ = some o_); obtain ⟨cx, s3, b36, s25, s28, _⟩ := hq_
                obtain ⟨q46, hl18, rfl, _⟩ := hr_ 3 (by decide) (hw_ 3 (by kernel_rfl))
                replace hl18 : Gk.look F_ 18 = some (.bool x43) := hl18
                obtain ⟨q47, hl21, rfl, _⟩ := hr_ 6 (by decide) (hw_ 6 (by kernel_rfl))
                replace hl21 : Gk.look F_ 21 = some (undef) := hl21
                refine LW.pick_t wn rfl (bk hl18 hb45) rfl ?_
                refine LW.nil ?_; intro a_ ha_
                exact ⟨rfl, _, _, ha_, ⟨rfl, trivial⟩, Ke.refl, cx, s3, b36, s25, s28, trivial⟩
              · intro o_ L_ F_ lab_ w_ ho_ hL_ hw_ hcl_ hb_ hr_ hq_; obtain rfl := Option.some.inj (ho_ : some _ = some o_); obtain ⟨cx, s3, b36, s25, s28, _⟩ := hq_
                obtain ⟨q48, hl22, rfl, _⟩ := hr_ 7 (by decide) (hw_ 7 (by kernel_rfl))
                replace hl22 : Gk.look F_ 22 = some (.bool true) := hl22
                refine LW.move wn rfl hl22 ?_
                refine LW.nil ?_; intro a_ ha_
                exact ⟨rfl, _, _, ha_, ⟨rfl, trivial⟩, Ke.refl, cx, s3, b36, s25, s28, trivial⟩
              · exact ob_skip (b' := true) 8 rfl (by kernel_rfl) (by decide) ⟨_, rfl⟩ (fun _ _ _ _ h_ => .inl h_.1) rfl rfl (fun _ _ _ => ⟨rfl, trivial⟩) (fun _ _ _ h_ => h_)
              · exact ob_skip (b' := true) 8 rfl (by kernel_rfl) (by decide) ⟨_, rfl⟩ (fun _ _ _ _ h_ => .inl h_.1) rfl rfl (fun _ _ _ => ⟨rfl, trivial⟩) (fun _ _ _ h_ => h_)
              · exact ob_skip (b' := true) 8 rfl (by kernel_rfl) (by decide) ⟨_, rfl⟩ (fun _ _ _ _ h_ => .inl h_.1) rfl rfl (fun _ _ _ => ⟨rfl, trivial⟩) (fun _ _ _ h_ => h_)
              · exact ob_skip (b' := true) 8 rfl (by kernel_rfl) (by decide) ⟨_, rfl⟩ (fun _ _ _ _ h_ => .inl h_.1) rfl rfl (fun _ _ _ => ⟨rfl, trivial⟩) (fun _ _ _ h_ => h_)
              · intro o_ L_ F_ lab_ w_ ho_ hL_ hw_ hcl_ hb_ hr_ hq_; obtain rfl := Option.some.inj (ho_ : some _ = some o_); obtain ⟨cx, s3, b36, s25, s28, _⟩ := hq_
                obtain ⟨q49, hl23, rfl, _⟩ := hr_ 8 (by decide) (hw_ 8 (by kernel_rfl))
                replace hl23 : Gk.look F_ 23 = some (.bool true) := hl23
                obtain ⟨q50, hl27, rfl, _⟩ := hr_ 12 (by decide) (hw_ 12 (by kernel_rfl))
                replace hl27 : Gk.look F_ 27 = some (undef) := hl27
                refine LW.pick_t wn rfl hl23 rfl ?_
                refine LW.nil ?_; intro a_ ha_
                exact ⟨rfl, _, _, ha_, ⟨rfl, trivial⟩, Ke.refl, cx, s3, b36, s25, s28, trivial⟩
              · intro o_ L_ F_ lab_ w_ ho_ hL_ hw_ hcl_ hb_ hr_ hq_; obtain rfl := Option.some.inj (ho_ : some _ = some o_); obtain ⟨cx, s3, b36, s25, s28, _⟩ := hq_
                obtain ⟨q51, hl28, rfl, _⟩ := hr_ 13 (by decide) (hw_ 13 (by kernel_rfl))
                replace hl28 : Gk.look F_ 28 = some (.bool true) := hl28
                refine LW.move wn rfl hl28 ?_
                refine LW.nil ?_; intro a_ ha_
                exact ⟨rfl, _, _, ha_, ⟨rfl, trivial⟩, Ke.refl, cx, s3, b36, s25, s28, trivial⟩
              · exact ob_skip (b' := true) 14 rfl (by kernel_rfl) (by decide) ⟨_, rfl⟩ (fun _ _ _ _ h_ => .inl h_.1) rfl rfl (fun _ _ _ => ⟨rfl, trivial⟩) (fun _ _ _ h_ => h_)
              · exact ob_skip (b' := true) 14 rfl (by kernel_rfl) (by decide) ⟨_, rfl⟩ (fun _ _ _ _ h_ => .inl h_.1) rfl rfl (fun _ _ _ => ⟨rfl, trivial⟩) (fun _ _ _ h_ => h_)
              · exact ob_skip (b' := true) 14 rfl (by kernel_rfl) (by decide) ⟨_, rfl⟩ (fun _ _ _ _ h_ => .inl h_.1) rfl rfl (fun _ _ _ => ⟨rfl, trivial⟩) (fun _ _ _ h_ => h_)
              · exact ob_skip (b' := true) 14 rfl (by kernel_rfl) (by decide) ⟨_, rfl⟩ (fun _ _ _ _ h_ => .inl h_.1) rfl rfl (fun _ _ _ => ⟨rfl, trivial⟩) (fun _ _ _ h_ => h_)
              · intro o_ L_ F_ lab_ w_ ho_ hL_ hw_ hcl_ hb_ hr_ hq_; obtain rfl := Option.some.inj (ho_ : some _ = some o_); obtain ⟨cx, s3, b36, s25, s28, _⟩ := hq_
                obtain ⟨q52, hl29, rfl, _⟩ := hr_ 14 (by decide) (hw_ 14 (by kernel_rfl))
                replace hl29 : Gk.look F_ 29 = some (.bool true) := hl29
                obtain ⟨q53, hl33, rfl, _⟩ := hr_ 18 (by decide) (hw_ 18 (by kernel_rfl))
                replace hl33 : Gk.look F_ 33 = some (undef) := hl33
                refine LW.pick_t wn rfl hl29 rfl ?_
                refine LW.nil ?_; intro a_ ha_
                exact ⟨rfl, _, _, ha_, ⟨rfl, trivial⟩, Ke.refl, cx, s3, b36, s25, s28, trivial⟩
              · intro o_ L_ F_ lab_ w_ ho_ hL_ hw_ hcl_ hb_ hr_ hq_; obtain rfl := Option.some.inj (ho_ : some _ = some o_); obtain ⟨cx, s3, b36, s25, s28, _⟩ := hq_
                obtain ⟨q54, hl34, rfl, _⟩ := hr_ 19 (by decide) (hw_ 19 (by kernel_rfl))
                replace hl34 : Gk.look F_ 34 = some (.bool true) := hl34
                refine LW.move wn rfl hl34 ?_
                refine LW.nil ?_; intro a_ ha_
                exact ⟨rfl, _, _, ha_, ⟨rfl, trivial⟩, Ke.refl, cx, s3, b36, s25, s28, trivial⟩
              · exact ob_skip (b' := true) 20 rfl (by kernel_rfl) (by decide) ⟨_, rfl⟩ (fun _ _ _ _ h_ => .inl h_.1) rfl rfl (fun _ _ _ => ⟨rfl, trivial⟩) (fun _ _ _ h_ => h_)
              · exact ob_skip (b' := true) 20 rfl (by kernel_rfl) (by decide) ⟨_, rfl⟩ (fun _ _ _ _ h_ => .inl h_.1) rfl rfl (fun _ _ _ => ⟨rfl, trivial⟩) (fun _ _ _ h_ => h_)
              · exact ob_skip (b' := true) 20 rfl (by kernel_rfl) (by decide) ⟨_, rfl⟩ (fun _ _ _ _ h_ => .inl h_.1) rfl rfl (fun _ _ _ => ⟨rfl, trivial⟩) (fun _ _ _ h_ => h_)
              · intro o_ L_ F_ lab_ w_ ho_ hL_ hw_ hcl_ hb_ hr_ hq_; obtain rfl := Option.some.inj (ho_ : some _ = some o_); obtain ⟨cx, s3, b36, s25, s28, _⟩ := hq_
                obtain ⟨q55, hl35, rfl, _⟩ := hr_ 20 (by decide) (hw_ 20 (by kernel_rfl))
                replace hl35 : Gk.look F_ 35 = some (.bool true) := hl35
                obtain ⟨q56, hl38, rfl, _⟩ := hr_ 23 (by decide) (hw_ 23 (by kernel_rfl))
                replace hl38 : Gk.look F_ 38 = some (undef) := hl38
                refine LW.pick_t wn rfl hl35 rfl ?_
                refine LW.nil ?_; intro a_ ha_
                exact ⟨rfl, _, _, ha_, ⟨rfl, trivial⟩, Ke.refl, cx, s3, b36, s25, s28, trivial⟩
              · intro o_ L_ F_ lab_ w_ ho_ hL_ hw_ hcl_ hb_ hr_ hq_; obtain rfl := Option.some.inj (ho_ : some _ = some o_); obtain ⟨cx, s3, b36, s25, s28, _⟩ := hq_
                obtain ⟨q57, hl39, rfl, _⟩ := hr_ 24 (by decide) (hw_ 24 (by kernel_rfl))
                replace hl39 : Gk.look F_ 39 = some (.bool true) := hl39
                refine LW.move wn rfl hl39 ?_
                refine LW.nil ?_; intro a_ ha_
                exact ⟨rfl, _, _, ha_, ⟨rfl, trivial⟩, Ke.refl, cx, s3, b36, s25, s28, trivial⟩
              · exact ob_skip (b' := true) 25 rfl (by kernel_rfl) (by decide) ⟨_, rfl⟩ (fun _ _ _ _ h_ => .inl h_.1) rfl rfl (fun _ _ _ => ⟨rfl, trivial⟩) (fun _ _ _ h_ => h_)
              · exact ob_skip (b' := true) 25 rfl (by kernel_rfl) (by decide) ⟨_, rfl⟩ (fun _ _ _ _ h_ => .inl h_.1) rfl rfl (fun _ _ _ => ⟨rfl, trivial⟩) (fun _ _ _ h_ => h_)
              · exact ob_skip (b' := true) 25 rfl (by kernel_rfl) (by decide) ⟨_, rfl⟩ (fun _ _ _ _ h_ => .inl h_.1) rfl rfl (fun _ _ _ => ⟨rfl, trivial⟩) (fun _ _ _ h_ => h_)
              · exact ob_skip (b' := true) 25 rfl (by kernel_rfl) (by decide) ⟨_, rfl⟩ (fun _ _ _ _ h_ => .inl h_.1) rfl rfl (fun _ _ _ => ⟨rfl, trivial⟩) (fun _ _ _ h_ => h_)
              · exact ob_skip (b' := true) 25 rfl (by kernel_rfl) (by decide) ⟨_, rfl⟩ (fun _ _ _ _ h_ => .inl h_.1) rfl rfl (fun _ _ _ => ⟨rfl, trivial⟩) (fun _ _ _ h_ => h_)
              · exact ob_skip (b' := true) 25 rfl (by kernel_rfl) (by decide) ⟨_, rfl⟩ (fun _ _ _ _ h_ => .inl h_.1) rfl rfl (fun _ _ _ => ⟨rfl, trivial⟩) (fun _ _ _ h_ => h_)
              · exact ob_skip (b' := true) 25 rfl (by kernel_rfl) (by decide) ⟨_, rfl⟩ (fun _ _ _ _ h_ => .inl h_.1) rfl rfl (fun _ _ _ => ⟨rfl, trivial⟩) (fun _ _ _ h_ => h_)
              · exact ob_skip (b' := true) 25 rfl (by kernel_rfl) (by decide) ⟨_, rfl⟩ (fun _ _ _ _ h_ => .inl h_.1) rfl rfl (fun _ _ _ => ⟨rfl, trivial⟩) (fun _ _ _ h_ => h_)
              · exact ob_skip (b' := true) 25 rfl (by kernel_rfl) (by decide) ⟨_, rfl⟩ (fun _ _ _ _ h_ => .inl h_.1) rfl rfl (fun _ _ _ => ⟨rfl, trivial⟩) (fun _ _ _ h_ => h_)
              · intro o_ L_ F_ lab_ w_ ho_ hL_ hw_ hcl_ hb_ hr_ hq_; obtain rfl := Option.some.inj (ho_ : some _ = some o_); obtain ⟨cx, s3, b36, s25, s28, _⟩ := hq_
                obtain ⟨q58, hl40, rfl, _⟩ := hr_ 25 (by decide) (hw_ 25 (by kernel_rfl))
                replace hl40 : Gk.look F_ 40 = some (.bool true) := hl40
                obtain ⟨q59, hl49, rfl, _⟩ := hr_ 34 (by decide) (hw_ 34 (by kernel_rfl))
                replace hl49 : Gk.look F_ 49 = some (undef) := hl49
                refine LW.pick_t wn rfl hl40 rfl ?_
                refine LW.nil ?_; intro a_ ha_
                exact ⟨rfl, _, _, ha_, ⟨rfl, trivial⟩, Ke.refl, cx, s3, b36, s25, s28, trivial⟩
            · intro F_ lab_ w_ hb_ hr_ hq_; obtain ⟨cx, s3, b36, s25, s28, _⟩ := hq_
              obtain ⟨q62, hl50, rfl, _⟩ := hr_ 35 (by decide)
              refine LW.sub (G := [(0, .slice oa1 a0.length c2), (3, .int .i64 ((k16 : Nat) : Int)), (4, .pointer (some ⟨g29, 0, none⟩)), (8, .slice oa1 a0.length c2), (9, .int .i64 (a0.length : Int)), (10, .int .i64 ((k16 : Nat) : Int)), (50, .bool true)]) ⟨hb_ 0 _ rfl, hb_ 3 _ rfl, hb_ 4 _ rfl, hb_ 8 _ rfl, hb_ 9 _ rfl, hb_ 10 _ rfl, hl50, trivial⟩ ?_
              simp only [List.drop_succ_cons, List.drop_nil, List.drop_zero]
              refine LW.nil ?_
              obtain rfl := Option.some.inj hm
              refine EW.sub (G := [(0, .slice oa1 a0.length c2), (8, .slice oa1 a0.length c2), (9, .int .i64 (a0.length : Int)), (10, .int .i64 ((k16 : Nat) : Int)), (50, .bool true)]) ⟨rfl, rfl, rfl, rfl, rfl, trivial⟩ ?_
              exact EW.join_n ⟨_, rfl, cx, s3, trivial⟩
          · replace hm := cond_f hm hb45
            obtain ⟨x68, hx_x68, hm_⟩ := letm_some hm; clear hm; have hm := hm_; clear hm_
            rcases Bool.eq_false_or_eq_true x68 with hb72 | hb72
            · replace hm := cond_t hm hb72
              refine CW.sub (G := [(0, .slice oa1 a0.length c2), (3, .int .i64 ((k16 : Nat) : Int)), (4, .pointer (some ⟨g29, 0, none⟩)), (8, .slice oa1 a0.length c2), (9, .int .i64 (a0.length : Int)), (10, .int .i64 ((k16 : Nat) : Int))]) ⟨rfl, rfl, rfl, rfl, rfl, rfl, trivial⟩ ?_
              refine CW.drawL (fun i_ => []) (fun i_ => by (try dsimp only); (repeat' split) <;> rfl) kMix_ 36 (by kernel_rfl) cx.top ?_
              intro w84 e85
              replace cx := cx.step e85 rfl
              replace s3 := s3.step e85
              replace b36 := b36.step e85 rfl
              replace s25 := s25.step e85
              replace s28 := s28.step e85
              clear e85
              refine ⟨[(fun L_ lab_ w_ v_ => v_ = .pointer (some ⟨g29, 0, none⟩) ∧ True),
    (fun L_ lab_ w_ v_ => v_ = .int .i64 x18.Peer ∧ True),
    (fun L_ lab_ w_ v_ => v_ = .bool x43 ∧ True),
    (fun L_ lab_ w_ v_ => v_ = .bool x43 ∧ True),
    (fun L_ lab_ w_ v_ => v_ = .pointer (some ⟨g29, 0, none⟩) ∧ True),
    (fun L_ lab_ w_ v_ => v_ = .int .i64 x18.Peer ∧ True),
    (fun L_ lab_ w_ v_ => v_ = .bool x68 ∧ True),
    (fun L_ lab_ w_ v_ => v_ = .bool x68 ∧ True),
    (fun L_ lab_ w_ v_ => v_ = .bool x68 ∧ True),
    (fun L_ lab_ w_ v_ => v_ = undef ∧ True),
    (fun L_ lab_ w_ v_ => v_ = undef ∧ True),
    (fun L_ lab_ w_ v_ => v_ = undef ∧ True),
    (fun L_ lab_ w_ v_ => v_ = undef ∧ True),
    (fun L_ lab_ w_ v_ => v_ = .bool true ∧ True),
    (fun L_ lab_ w_ v_ => v_ = .bool true ∧ True),
    (fun L_ lab_ w_ v_ => v_ = undef ∧ True),
    (fun L_ lab_ w_ v_ => v_ = undef ∧ True),
    (fun L_ lab_ w_ v_ => v_ = undef ∧ True),
    (fun L_ lab_ w_ v_ => v_ = undef ∧ True),
    (fun L_ lab_ w_ v_ => v_ = .bool true ∧ True),
    (fun L_ lab_ w_ v_ => v_ = .bool true ∧ True),
    (fun L_ lab_ w_ v_ => v_ = undef ∧ True),
    (fun L_ lab_ w_ v_ => v_ = undef ∧ True),
    (fun L_ lab_ w_ v_ => v_ = undef ∧ True),
    (fun L_ lab_ w_ v_ => v_ = .bool true ∧ True),
    (fun L_ lab_ w_ v_ => v_ = .bool true ∧ True),
    (fun L_ lab_ w_ v_ => v_ = undef ∧ True),
    (fun L_ lab_ w_ v_ => v_ = undef ∧ True),
    (fun L_ lab_ w_ v_ => v_ = undef ∧ True),
    (fun L_ lab_ w_ v_ => v_ = undef ∧ True),
    (fun L_ lab_ w_ v_ => v_ = undef ∧ True),
    (fun L_ lab_ w_ v_ => v_ = undef ∧ True),
    (fun L_ lab_ w_ v_ => v_ = undef ∧ True),
    (fun L_ lab_ w_ v_ => v_ = undef ∧ True),
    (fun L_ lab_ w_ v_ => v_ = undef ∧ True),
    (fun L_ lab_ w_ v_ => v_ = .bool true ∧ True)], (fun L_ lab_ w_ => Cx [] w lab w_ lab_ ∧ SL R_api_Partial lab_ w_ oa1 c2 a0 ∧ Box lab_ w_ 14 g29 63 [.int .i64 x18.Peer, .slice oa23 x18.Key.length c24, .slice oa26 x18.Data.length c27, .int .i64 x18.Until] ∧ SL Rep.u8 lab_ w_ oa23 c24 x18.Key ∧ SL Rep.u8 lab_ w_ oa26 c27 x18.Data ∧ True), ?_, ⟨cx, s3, b36, s25, s28, trivial⟩, ?_, ?_⟩
              · exact ⟨by rintro i_ L_ lab_ w_ lab2_ w2_ v_ hne_ hd_ hk_ hp_ ⟨hv_, _⟩; exact ⟨hv_, trivial⟩, by rintro i_ L_ lab_ w_ lab2_ w2_ v_ hne_ hd_ hk_ hp_ ⟨hv_, _⟩; exact ⟨hv_, trivial⟩, by rintro i_ L_ lab_ w_ lab2_ w2_ v_ hne_ hd_ hk_ hp_ ⟨hv_, _⟩; exact ⟨hv_, trivial⟩, by rintro i_ L_ lab_ w_ lab2_ w2_ v_ hne_ hd_ hk_ hp_ ⟨hv_, _⟩; exact ⟨hv_, trivial⟩, by rintro i_ L_ lab_ w_ lab2_ w2_ v_ hne_ hd_ hk_ hp_ ⟨hv_, _⟩; exact ⟨hv_, trivial⟩, by rintro i_ L_ lab_ w_ lab2_ w2_ v_ hne_ hd_ hk_ hp_ ⟨hv_, _⟩; exact ⟨hv_, trivial⟩, by rintro i_ L_ lab_ w_ lab2_ w2_ v_ hne_ hd_ hk_ hp_ ⟨hv_, _⟩; exact ⟨hv_, trivial⟩, by rintro i_ L_ lab_ w_ lab2_ w2_ v_ hne_ hd_ hk_ hp_ ⟨hv_, _⟩; exact ⟨hv_, trivial⟩, by rintro i_ L_ lab_ w_ lab2_ w2_ v_ hne_ hd_ hk_ hp_ ⟨hv_, _⟩; exact ⟨hv_, trivial⟩, by rintro i_ L_ lab_ w_ lab2_ w2_ v_ hne_ hd_ hk_ hp_ ⟨hv_, _⟩; exact ⟨hv_, trivial⟩, by rintro i_ L_ lab_ w_ lab2_ w2_ v_ hne_ hd_ hk_ hp_ ⟨hv_, _⟩; exact ⟨hv_, trivial⟩, by rintro i_ L_ lab_ w_ lab2_ w2_ v_ hne_ hd_ hk_ hp_ ⟨hv_, _⟩; exact ⟨hv_, trivial⟩, by rintro i_ L_ lab_ w_ lab2_ w2_ v_ hne_ hd_ hk_ hp_ ⟨hv_, _⟩; exact ⟨hv_, trivial⟩, by rintro i_ L_ lab_ w_ lab2_ w2_ v_ hne_ hd_ hk_ hp_ ⟨hv_, _⟩; exact ⟨hv_, trivial⟩, by rintro i_ L_ lab_ w_ lab2_ w2_ v_ hne_ hd_ hk_ hp_ ⟨hv_, _⟩; exact ⟨hv_, trivial⟩, by rintro i_ L_ lab_ w_ lab2_ w2_ v_ hne_ hd_ hk_ hp_ ⟨hv_, _⟩; exact ⟨hv_, trivial⟩, by rintro i_ L_ lab_ w_ lab2_ w2_ v_ hne_ hd_ hk_ hp_ ⟨hv_, _⟩; exact ⟨hv_, trivial⟩, by rintro i_ L_ lab_ w_ lab2_ w2_ v_ hne_ hd_ hk_ hp_ ⟨hv_, _⟩; exact ⟨hv_, trivial⟩, by rintro i_ L_ lab_ w_ lab2_ w2_ v_ hne_ hd_ hk_ hp_ ⟨hv_, _⟩; exact ⟨hv_, trivial⟩, by rintro i_ L_ lab_ w_ lab2_ w2_ v_ hne_ hd_ hk_ hp_ ⟨hv_, _⟩; exact ⟨hv_, trivial⟩, by rintro i_ L_ lab_ w_ lab2_ w2_ v_ hne_ hd_ hk_ hp_ ⟨hv_, _⟩; exact ⟨hv_, trivial⟩, by rintro i_ L_ lab_ w_ lab2_ w2_ v_ hne_ hd_ hk_ hp_ ⟨hv_, _⟩; exact ⟨hv_, trivial⟩, by rintro i_ L_ lab_ w_ lab2_ w2_ v_ hne_ hd_ hk_ hp_ ⟨hv_, _⟩; exact ⟨hv_, trivial⟩, by rintro i_ L_ lab_ w_ lab2_ w2_ v_ hne_ hd_ hk_ hp_ ⟨hv_, _⟩; exact ⟨hv_, trivial⟩, by rintro i_ L_ lab_ w_ lab2_ w2_ v_ hne_ hd_ hk_ hp_ ⟨hv_, _⟩; exact ⟨hv_, trivial⟩, by rintro i_ L_ lab_ w_ lab2_ w2_ v_ hne_ hd_ hk_ hp_ ⟨hv_, _⟩; exact ⟨hv_, trivial⟩, by rintro i_ L_ lab_ w_ lab2_ w2_ v_ hne_ hd_ hk_ hp_ ⟨hv_, _⟩; exact ⟨hv_, trivial⟩, by rintro i_ L_ lab_ w_ lab2_ w2_ v_ hne_ hd_ hk_ hp_ ⟨hv_, _⟩; exact ⟨hv_, trivial⟩, by rintro i_ L_ lab_ w_ lab2_ w2_ v_ hne_ hd_ hk_ hp_ ⟨hv_, _⟩; exact ⟨hv_, trivial⟩, by rintro i_ L_ lab_ w_ lab2_ w2_ v_ hne_ hd_ hk_ hp_ ⟨hv_, _⟩; exact ⟨hv_, trivial⟩, by rintro i_ L_ lab_ w_ lab2_ w2_ v_ hne_ hd_ hk_ hp_ ⟨hv_, _⟩; exact ⟨hv_, trivial⟩, by rintro i_ L_ lab_ w_ lab2_ w2_ v_ hne_ hd_ hk_ hp_ ⟨hv_, _⟩; exact ⟨hv_, trivial⟩, by rintro i_ L_ lab_ w_ lab2_ w2_ v_ hne_ hd_ hk_ hp_ ⟨hv_, _⟩; exact ⟨hv_, trivial⟩, by rintro i_ L_ lab_ w_ lab2_ w2_ v_ hne_ hd_ hk_ hp_ ⟨hv_, _⟩; exact ⟨hv_, trivial⟩, by rintro i_ L_ lab_ w_ lab2_ w2_ v_ hne_ hd_ hk_ hp_ ⟨hv_, _⟩; exact ⟨hv_, trivial⟩, by rintro i_ L_ lab_ w_ lab2_ w2_ v_ hne_ hd_ hk_ hp_ ⟨hv_, _⟩; exact ⟨hv_, trivial⟩, trivial⟩
              · refine (ob_succ (ob_succ (ob_succ (ob_succ (ob_succ (ob_succ (ob_succ (ob_succ (ob_succ (ob_succ (ob_succ (ob_succ (ob_succ (ob_succ (ob_succ (ob_succ (ob_succ (ob_succ (ob_succ (ob_succ (ob_succ (ob_succ (ob_succ (ob_succ (ob_succ (ob_succ (ob_succ (ob_succ (ob_succ (ob_succ (ob_succ (ob_succ (ob_succ (ob_succ (ob_succ (ob_succ ob_nil ?_) ?_) ?_) ?_) ?_) ?_) ?_) ?_) ?_) ?_) ?_) ?_) ?_) ?_) ?_) ?_) ?_) ?_) ?_) ?_) ?_) ?_) ?_) ?_) ?_) ?_) ?_) ?_) ?_) ?_) ?_) ?_) ?_) ?_) ?_) ?_)
                · intro o_ L_ F_ lab_ w_ ho_ hL_ hw_ hcl_ hb_ hr_ hq_; obtain rfl := Option.some.inj (ho_ : some _ = some o_); obtain ⟨cx, s3, b36, s25, s28, _⟩ := hq_
                  have hl4 := hb_ 4 _ rfl
                  refine LW.fldB 0 kFld_63_0 rfl wn rfl hl4 ?_
                  refine LW.nil ?_; intro a_ ha_
                  exact ⟨rfl, _, _, ha_, ⟨rfl, trivial⟩, Ke.refl, cx, s3, b36, s25, s28, trivial⟩
                · intro o_ L_ F_ lab_ w_ ho_ hL_ hw_ hcl_ hb_ hr_ hq_; obtain rfl := Option.some.inj (ho_ : some _ = some o_); obtain ⟨cx, s3, b36, s25, s28, _⟩ := hq_
                  obtain ⟨q41, hl15, rfl, _⟩ := hr_ 0 (by decide) (hw_ 0 (by kernel_rfl))
                  replace hl15 : Gk.look F_ 15 = some (.pointer (some ⟨g29, 0, none⟩)) := hl15
                  refine LW.loadB1 b36 kOne_3 rfl wn rfl hl15 ?_
                  refine LW.nil ?_; intro a_ ha_
                  exact ⟨rfl, _, _, ha_, ⟨rfl, trivial⟩, Ke.refl, cx, s3, b36, s25, s28, trivial⟩
                · intro o_ L_ F_ lab_ w_ ho_ hL_ hw_ hcl_ hb_ hr_ hq_; obtain rfl := Option.some.inj (ho_ : some _ = some o_); obtain ⟨cx, s3, b36, s25, s28, _⟩ := hq_
                  obtain ⟨q42, hl16, rfl, _⟩ := hr_ 1 (by decide) (hw_ 1 (by kernel_rfl))
                  replace hl16 : Gk.look F_ 16 = some (.int .i64 x18.Peer) := hl16
                  refine LW.lss (letm_eq hx_x43) wn rfl hl16 rfl ?_; intro x_ hx_; cases hx_
                  refine LW.nil ?_; intro a_ ha_
                  exact ⟨rfl, _, _, ha_, ⟨rfl, trivial⟩, Ke.refl, cx, s3, b36, s25, s28, trivial⟩
                · intro o_ L_ F_ lab_ w_ ho_ hL_ hw_ hcl_ hb_ hr_ hq_; obtain rfl := Option.some.inj (ho_ : some _ = some o_); obtain ⟨cx, s3, b36, s25, s28, _⟩ := hq_
                  obtain ⟨q44, hl17, rfl, _⟩ := hr_ 2 (by decide) (hw_ 2 (by kernel_rfl))
                  replace hl17 : Gk.look F_ 17 = some (.bool x43) := hl17
                  refine LW.move wn rfl hl17 ?_
                  refine LW.nil ?_; intro a_ ha_
                  exact ⟨rfl, _, _, ha_, ⟨rfl, trivial⟩, Ke.refl, cx, s3, b36, s25, s28, trivial⟩
                · intro o_ L_ F_ lab_ w_ ho_ hL_ hw_ hcl_ hb_ hr_ hq_; obtain rfl := Option.some.inj (ho_ : some _ = some o_); obtain ⟨cx, s3, b36, s25, s28, _⟩ := hq_
                  have hl4 := hb_ 4 _ rfl
                  obtain ⟨q63, hl18, rfl, _⟩ := hr_ 3 (by decide) (hw_ 3 (by kernel_rfl))
                  replace hl18 : Gk.look F_ 18 = some (.bool x43) := hl18
                  refine LW.fldB 0 kFld_63_0 rfl (ws 18 rfl (bk hl18 hb45)) rfl hl4 ?_
                  refine LW.nil ?_; intro a_ ha_
                  exact ⟨rfl, _, _, ha_, ⟨rfl, trivial⟩, Ke.refl, cx, s3, b36, s25, s28, trivial⟩
                · intro o_ L_ F_ lab_ w_ ho_ hL_ hw_ hcl_ hb_ hr_ hq_; obtain rfl := Option.some.inj (ho_ : some _ = some o_); obtain ⟨cx, s3, b36, s25, s28, _⟩ := hq_
                  obtain ⟨q64, hl19, rfl, _⟩ := hr_ 4 (by decide) (hw_ 4 (by kernel_rfl))
                  replace hl19 : Gk.look F_ 19 = some (.pointer (some ⟨g29, 0, none⟩)) := hl19
                  obtain ⟨q65, hl18, rfl, _⟩ := hr_ 3 (by decide) (hw_ 3 (by kernel_rfl))
                  replace hl18 : Gk.look F_ 18 = some (.bool x43) := hl18
                  refine LW.loadB1 b36 kOne_3 rfl (ws 18 rfl (bk hl18 hb45)) rfl hl19 ?_
                  refine LW.nil ?_; intro a_ ha_
                  exact ⟨rfl, _, _, ha_, ⟨rfl, trivial⟩, Ke.refl, cx, s3, b36, s25, s28, trivial⟩
                · intro o_ L_ F_ lab_ w_ ho_ hL_ hw_ hcl_ hb_ hr_ hq_; obtain rfl := Option.some.inj (ho_ : some _ = some o_); obtain ⟨cx, s3, b36, s25, s28, _⟩ := hq_
                  obtain ⟨q66, hl20, rfl, _⟩ := hr_ 5 (by decide) (hw_ 5 (by kernel_rfl))
                  replace hl20 : Gk.look F_ 20 = some (.int .i64 x18.Peer) := hl20
                  obtain ⟨q67, hl18, rfl, _⟩ := hr_ 3 (by decide) (hw_ 3 (by kernel_rfl))
                  replace hl18 : Gk.look F_ 18 = some (.bool x43) := hl18
                  refine LW.gtr (letm_eq hx_x68) (ws 18 rfl (bk hl18 hb45)) rfl hl20 rfl ?_; intro x_ hx_; cases hx_
                  refine LW.nil ?_; intro a_ ha_
                  exact ⟨rfl, _, _, ha_, ⟨rfl, trivial⟩, Ke.refl, cx, s3, b36, s25, s28, trivial⟩
                · intro o_ L_ F_ lab_ w_ ho_ hL_ hw_ hcl_ hb_ hr_ hq_; obtain rfl := Option.some.inj (ho_ : some _ = some o_); obtain ⟨cx, s3, b36, s25, s28, _⟩ := hq_
                  obtain ⟨q69, hl18, rfl, _⟩ := hr_ 3 (by decide) (hw_ 3 (by kernel_rfl))
                  replace hl18 : Gk.look F_ 18 = some (.bool x43) := hl18
                  obtain ⟨q70, hl21, rfl, _⟩ := hr_ 6 (by decide) (hw_ 6 (by kernel_rfl))
                  replace hl21 : Gk.look F_ 21 = some (.bool x68) := hl21
                  refine LW.pick_f wn rfl (bk hl18 hb45) hl21 ?_
                  refine LW.nil ?_; intro a_ ha_
                  exact ⟨rfl, _, _, ha_, ⟨rfl, trivial⟩, Ke.refl, cx, s3, b36, s25, s28, trivial⟩
                · intro o_ L_ F_ lab_ w_ ho_ hL_ hw_ hcl_ hb_ hr_ hq_; obtain rfl := Option.some.inj (ho_ : some _ = some o_); obtain ⟨cx, s3, b36, s25, s28, _⟩ := hq_
                  obtain ⟨q71, hl22, rfl, _⟩ := hr_ 7 (by decide) (hw_ 7 (by kernel_rfl))
                  replace hl22 : Gk.look F_ 22 = some (.bool x68) := hl22
                  refine LW.move wn rfl hl22 ?_
                  refine LW.nil ?_; intro a_ ha_
                  exact ⟨rfl, _, _, ha_, ⟨rfl, trivial⟩, Ke.refl, cx, s3, b36, s25, s28, trivial⟩
                · exact ob_skip (b' := true) 8 rfl (by kernel_rfl) (by decide) ⟨_, rfl⟩ (fun _ _ _ _ h_ => .inl (h_.1.trans (congrArg Value.bool hb72))) rfl rfl (fun _ _ _ => ⟨rfl, trivial⟩) (fun _ _ _ h_ => h_)
                · exact ob_skip (b' := true) 8 rfl (by kernel_rfl) (by decide) ⟨_, rfl⟩ (fun _ _ _ _ h_ => .inl (h_.1.trans (congrArg Value.bool hb72))) rfl rfl (fun _ _ _ => ⟨rfl, trivial⟩) (fun _ _ _ h_ => h_)
                · exact ob_skip (b' := true) 8 rfl (by kernel_rfl) (by decide) ⟨_, rfl⟩ (fun _ _ _ _ h_ => .inl (h_.1.trans (congrArg Value.bool hb72))) rfl rfl (fun _ _ _ => ⟨rfl, trivial⟩) (fun _ _ _ h_ => h_)
                · exact ob_skip (b' := true) 8 rfl (by kernel_rfl) (by decide) ⟨_, rfl⟩ (fun _ _ _ _ h_ => .inl (h_.1.trans (congrArg Value.bool hb72))) rfl rfl (fun _ _ _ => ⟨rfl, trivial⟩) (fun _ _ _ h_ => h_)
                · intro o_ L_ F_ lab_ w_ ho_ hL_ hw_ hcl_ hb_ hr_ hq_; obtain rfl := Option.some.inj (ho_ : some _ = some o_); obtain ⟨cx, s3, b36, s25, s28, _⟩ := hq_
                  obtain ⟨q73, hl23, rfl, _⟩ := hr_ 8 (by decide) (hw_ 8 (by kernel_rfl))
                  replace hl23 : Gk.look F_ 23 = some (.bool x68) := hl23
                  obtain ⟨q74, hl27, rfl, _⟩ := hr_ 12 (by decide) (hw_ 12 (by kernel_rfl))
                  replace hl27 : Gk.look F_ 27 = some (undef) := hl27
                  refine LW.pick_t wn rfl (bk hl23 hb72) rfl ?_
                  refine LW.nil ?_; intro a_ ha_
                  exact ⟨rfl, _, _, ha_, ⟨rfl, trivial⟩, Ke.refl, cx, s3, b36, s25, s28, trivial⟩
                · intro o_ L_ F_ lab_ w_ ho_ hL_ hw_ hcl_ hb_ hr_ hq_; obtain rfl := Option.some.inj (ho_ : some _ = some o_); obtain ⟨cx, s3, b36, s25, s28, _⟩ := hq_
                  obtain ⟨q75, hl28, rfl, _⟩ := hr_ 13 (by decide) (hw_ 13 (by kernel_rfl))
                  replace hl28 : Gk.look F_ 28 = some (.bool true) := hl28
                  refine LW.move wn rfl hl28 ?_
                  refine LW.nil ?_; intro a_ ha_
                  exact ⟨rfl, _, _, ha_, ⟨rfl, trivial⟩, Ke.refl, cx, s3, b36, s25, s28, trivial⟩
                · exact ob_skip (b' := true) 14 rfl (by kernel_rfl) (by decide) ⟨_, rfl⟩ (fun _ _ _ _ h_ => .inl h_.1) rfl rfl (fun _ _ _ => ⟨rfl, trivial⟩) (fun _ _ _ h_ => h_)
                · exact ob_skip (b' := true) 14 rfl (by kernel_rfl) (by decide) ⟨_, rfl⟩ (fun _ _ _ _ h_ => .inl h_.1) rfl rfl (fun _ _ _ => ⟨rfl, trivial⟩) (fun _ _ _ h_ => h_)
                · exact ob_skip (b' := true) 14 rfl (by kernel_rfl) (by decide) ⟨_, rfl⟩ (fun _ _ _ _ h_ => .inl h_.1) rfl rfl (fun _ _ _ => ⟨rfl, trivial⟩) (fun _ _ _ h_ => h_)
                · exact ob_skip (b' := true) 14 rfl (by kernel_rfl) (by decide) ⟨_, rfl⟩ (fun _ _ _ _ h_ => .inl h_.1) rfl rfl (fun _ _ _ => ⟨rfl, trivial⟩) (fun _ _ _ h_ => h_)
                · intro o_ L_ F_ lab_ w_ ho_ hL_ hw_ hcl_ hb_ hr_ hq_; obtain rfl := Option.some.inj (ho_ : some _ = some o_); obtain ⟨cx, s3, b36, s25, s28, _⟩ := hq_
                  obtain ⟨q76, hl29, rfl, _⟩ := hr_ 14 (by decide) (hw_ 14 (by kernel_rfl))
                  replace hl29 : Gk.look F_ 29 = some (.bool true) := hl29
                  obtain ⟨q77, hl33, rfl, _⟩ := hr_ 18 (by decide) (hw_ 18 (by kernel_rfl))
                  replace hl33 : Gk.look F_ 33 = some (undef) := hl33
                  refine LW.pick_t wn rfl hl29 rfl ?_
                  refine LW.nil ?_; intro a_ ha_
                  exact ⟨rfl, _, _, ha_, ⟨rfl, trivial⟩, Ke.refl, cx, s3, b36, s25, s28, trivial⟩
                · intro o_ L_ F_ lab_ w_ ho_ hL_ hw_ hcl_ hb_ hr_ hq_; obtain rfl := Option.some.inj (ho_ : some _ = some o_); obtain ⟨cx, s3, b36, s25, s28, _⟩ := hq_
                  obtain ⟨q78, hl34, rfl, _⟩ := hr_ 19 (by decide) (hw_ 19 (by kernel_rfl))
                  replace hl34 : Gk.look F_ 34 = some (.bool true) := hl34
                  refine LW.move wn rfl hl34 ?_
                  refine LW.nil ?_; intro a_ ha_
                  exact ⟨rfl, _, _, ha_, ⟨rfl, trivial⟩, Ke.refl, cx, s3, b36, s25, s28, trivial⟩
                · exact ob_skip (b' := true) 20 rfl (by kernel_rfl) (by decide) ⟨_, rfl⟩ (fun _ _ _ _ h_ => .inl h_.1) rfl rfl (fun _ _ _ => ⟨rfl, trivial⟩) (fun _ _ _ h_ => h_)
                · exact ob_skip (b' := true) 20 rfl (by kernel_rfl) (by decide) ⟨_, rfl⟩ (fun _ _ _ _ h_ => .inl h_.1) rfl rfl (fun _ _ _ => ⟨rfl, trivial⟩) (fun _ _ _ h_ => h_)
                · exact ob_skip (b' := true) 20 rfl (by kernel_rfl) (by decide) ⟨_, rfl⟩ (fun _ _ _ _ h_ => .inl h_.1) rfl rfl (fun _ _ _ => ⟨rfl, trivial⟩) (fun _ _ _ h_ => h_)
                · intro o_ L_ F_ lab_ w_ ho_ hL_ hw_ hcl_ hb_ hr_ hq_; obtain rfl := Option.some.inj (ho_ : some _ = some o_); obtain ⟨cx, s3, b36, s25, s28, _⟩ := hq_
                  obtain ⟨q79, hl35, rfl, _⟩ := hr_ 20 (by decide) (hw_ 20 (by kernel_rfl))
                  replace hl35 : Gk.look F_ 35 = some (.bool true) := hl35
                  obtain ⟨q80, hl38, rfl, _⟩ := hr_ 23 (by decide) (hw_ 23 (by kernel_rfl))
                  replace hl38 : Gk.look F_ 38 = some (undef) := hl38
                  refine LW.pick_t wn rfl hl35 rfl ?_
                  refine LW.nil ?_; intro a_ ha_
                  exact ⟨rfl, _, _, ha_, ⟨rfl, trivial⟩, Ke.refl, cx, s3, b36, s25, s28, trivial⟩
                · intro o_ L_ F_ lab_ w_ ho_ hL_ hw_ hcl_ hb_ hr_ hq_; obtain rfl := Option.some.inj (ho_ : some _ = some o_); obtain ⟨cx, s3, b36, s25, s28, _⟩ := hq_
                  obtain ⟨q81, hl39, rfl, _⟩ := hr_ 24 (by decide) (hw_ 24 (by kernel_rfl))
                  replace hl39 : Gk.look F_ 39 = some (.bool true) := hl39
                  refine LW.move wn rfl hl39 ?_
                  refine LW.nil ?_; intro a_ ha_
                  exact ⟨rfl, _, _, ha_, ⟨rfl, trivial⟩, Ke.refl, cx, s3, b36, s25, s28, trivial⟩
                · exact ob_skip (b' := true) 25 rfl (by kernel_rfl) (by decide) ⟨_, rfl⟩ (fun _ _ _ _ h_ => .inl h_.1) rfl rfl (fun _ _ _ => ⟨rfl, trivial⟩) (fun _ _ _ h_ => h_)
                · exact ob_skip (b' := true) 25 rfl (by kernel_rfl) (by decide) ⟨_, rfl⟩ (fun _ _ _ _ h_ => .inl h_.1) rfl rfl (fun _ _ _ => ⟨rfl, trivial⟩) (fun _ _ _ h_ => h_)
                · exact ob_skip (b' := true) 25 rfl (by kernel_rfl) (by decide) ⟨_, rfl⟩ (fun _ _ _ _ h_ => .inl h_.1) rfl rfl (fun _ _ _ => ⟨rfl, trivial⟩) (fun _ _ _ h_ => h_)
                · exact ob_skip (b' := true) 25 rfl (by kernel_rfl) (by decide) ⟨_, rfl⟩ (fun _ _ _ _ h_ => .inl h_.1) rfl rfl (fun _ _ _ => ⟨rfl, trivial⟩) (fun _ _ _ h_ => h_)
                · exact ob_skip (b' := true) 25 rfl (by kernel_rfl) (by decide) ⟨_, rfl⟩ (fun _ _ _ _ h_ => .inl h_.1) rfl rfl (fun _ _ _ => ⟨rfl, trivial⟩) (fun _ _ _ h_ => h_)
                · exact ob_skip (b' := true) 25 rfl (by kernel_rfl) (by decide) ⟨_, rfl⟩ (fun _ _ _ _ h_ => .inl h_.1) rfl rfl (fun _ _ _ => ⟨rfl, trivial⟩) (fun _ _ _ h_ => h_)
                · exact ob_skip (b' := true) 25 rfl (by kernel_rfl) (by decide) ⟨_, rfl⟩ (fun _ _ _ _ h_ => .inl h_.1) rfl rfl (fun _ _ _ => ⟨rfl, trivial⟩) (fun _ _ _ h_ => h_)
                · exact ob_skip (b' := true) 25 rfl (by kernel_rfl) (by decide) ⟨_, rfl⟩ (fun _ _ _ _ h_ => .inl h_.1) rfl rfl (fun _ _ _ => ⟨rfl, trivial⟩) (fun _ _ _ h_ => h_)
                · exact ob_skip (b' := true) 25 rfl (by kernel_rfl) (by decide) ⟨_, rfl⟩ (fun _ _ _ _ h_ => .inl h_.1) rfl rfl (fun _ _ _ => ⟨rfl, trivial⟩) (fun _ _ _ h_ => h_)
                · intro o_ L_ F_ lab_ w_ ho_ hL_ hw_ hcl_ hb_ hr_ hq_; obtain rfl := Option.some.inj (ho_ : some _ = some o_); obtain ⟨cx, s3, b36, s25, s28, _⟩ := hq_
                  obtain ⟨q82, hl40, rfl, _⟩ := hr_ 25 (by decide) (hw_ 25 (by kernel_rfl))
                  replace hl40 : Gk.look F_ 40 = some (.bool true) := hl40
                  obtain ⟨q83, hl49, rfl, _⟩ := hr_ 34 (by decide) (hw_ 34 (by kernel_rfl))
                  replace hl49 : Gk.look F_ 49 = some (undef) := hl49
                  refine LW.pick_t wn rfl hl40 rfl ?_
                  refine LW.nil ?_; intro a_ ha_
                  exact ⟨rfl, _, _, ha_, ⟨rfl, trivial⟩, Ke.refl, cx, s3, b36, s25, s28, trivial⟩
              · intro F_ lab_ w_ hb_ hr_ hq_; obtain ⟨cx, s3, b36, s25, s28, _⟩ := hq_
                obtain ⟨q86, hl50, rfl, _⟩ := hr_ 35 (by decide)
                refine LW.sub (G := [(0, .slice oa1 a0.length c2), (3, .int .i64 ((k16 : Nat) : Int)), (4, .pointer (some ⟨g29, 0, none⟩)), (8, .slice oa1 a0.length c2), (9, .int .i64 (a0.length : Int)), (10, .int .i64 ((k16 : Nat) : Int)), (50, .bool true)]) ⟨hb_ 0 _ rfl, hb_ 3 _ rfl, hb_ 4 _ rfl, hb_ 8 _ rfl, hb_ 9 _ rfl, hb_ 10 _ rfl, hl50, trivial⟩ ?_
                simp only [List.drop_succ_cons, List.drop_nil, List.drop_zero]
                refine LW.nil ?_
                obtain rfl := Option.some.inj hm
                refine EW.sub (G := [(0, .slice oa1 a0.length c2), (8, .slice oa1 a0.length c2), (9, .int .i64 (a0.length : Int)), (10, .int .i64 ((k16 : Nat) : Int)), (50, .bool true)]) ⟨rfl, rfl, rfl, rfl, rfl, trivial⟩ ?_
                exact EW.join_n ⟨_, rfl, cx, s3, trivial⟩
            · replace hm := cond_f hm hb72
              obtain ⟨x94, hx_x94, hm_⟩ := letm_some hm; clear hm; have hm := hm_; clear hm_
              rcases Bool.eq_false_or_eq_true x94 with hb98 | hb98
              · replace hm := cond_t hm hb98
                refine CW.sub (G := [(0, .slice oa1 a0.length c2), (3, .int .i64 ((k16 : Nat) : Int)), (4, .pointer (some ⟨g29, 0, none⟩)), (8, .slice oa1 a0.length c2), (9, .int .i64 (a0.length : Int)), (10, .int .i64 ((k16 : Nat) : Int))]) ⟨rfl, rfl, rfl, rfl, rfl, rfl, trivial⟩ ?_
                refine CW.drawL (fun i_ => []) (fun i_ => by (try dsimp only); (repeat' split) <;> rfl) kMix_ 36 (by kernel_rfl) cx.top ?_
                intro w107 e108
                replace cx := cx.step e108 rfl
                replace s3 := s3.step e108
                replace b36 := b36.step e108 rfl
                replace s25 := s25.step e108
                replace s28 := s28.step e108
                clear e108
                refine ⟨[(fun L_ lab_ w_ v_ => v_ = .pointer (some ⟨g29, 0, none⟩) ∧ True),
    (fun L_ lab_ w_ v_ => v_ = .int .i64 x18.Peer ∧ True),
    (fun L_ lab_ w_ v_ => v_ = .bool x43 ∧ True),
    (fun L_ lab_ w_ v_ => v_ = .bool x43 ∧ True),
    (fun L_ lab_ w_ v_ => v_ = .pointer (some ⟨g29, 0, none⟩) ∧ True),
    (fun L_ lab_ w_ v_ => v_ = .int .i64 x18.Peer ∧ True),
    (fun L_ lab_ w_ v_ => v_ = .bool x68 ∧ True),
    (fun L_ lab_ w_ v_ => v_ = .bool x68 ∧ True),
    (fun L_ lab_ w_ v_ => v_ = .bool x68 ∧ True),
    (fun L_ lab_ w_ v_ => v_ = .pointer (some ⟨g29, 1, none⟩) ∧ True),
    (fun L_ lab_ w_ v_ => v_ = .slice oa23 x18.Key.length c24 ∧ True),
    (fun L_ lab_ w_ v_ => v_ = .int .i64 (x18.Key.length : Int) ∧ True),
    (fun L_ lab_ w_ v_ => v_ = .bool x94 ∧ True),
    (fun L_ lab_ w_ v_ => v_ = .bool x94 ∧ True),
    (fun L_ lab_ w_ v_ => v_ = .bool x94 ∧ True),
    (fun L_ lab_ w_ v_ => v_ = undef ∧ True),
    (fun L_ lab_ w_ v_ => v_ = undef ∧ True),
    (fun L_ lab_ w_ v_ => v_ = undef ∧ True),
    (fun L_ lab_ w_ v_ => v_ = undef ∧ True),
    (fun L_ lab_ w_ v_ => v_ = .bool true ∧ True),
    (fun L_ lab_ w_ v_ => v_ = .bool true ∧ True),
    (fun L_ lab_ w_ v_ => v_ = undef ∧ True),
    (fun L_ lab_ w_ v_ => v_ = undef ∧ True),
    (fun L_ lab_ w_ v_ => v_ = undef ∧ True),
    (fun L_ lab_ w_ v_ => v_ = .bool true ∧ True),
    (fun L_ lab_ w_ v_ => v_ = .bool true ∧ True),
    (fun L_ lab_ w_ v_ => v_ = undef ∧ True),
    (fun L_ lab_ w_ v_ => v_ = undef ∧ True),
    (fun L_ lab_ w_ v_ => v_ = undef ∧ True),
    (fun L_ lab_ w_ v_ => v_ = undef ∧ True),
    (fun L_ lab_ w_ v_ => v_ = undef ∧ True),
    (fun L_ lab_ w_ v_ => v_ = undef ∧ True),
    (fun L_ lab_ w_ v_ => v_ = undef ∧ True),
    (fun L_ lab_ w_ v_ => v_ = undef ∧ True),
    (fun L_ lab_ w_ v_ => v_ = undef ∧ True),
    (fun L_ lab_ w_ v_ => v_ = .bool true ∧ True)], (fun L_ lab_ w_ => Cx [] w lab w_ lab_ ∧ SL R_api_Partial lab_ w_ oa1 c2 a0 ∧ Box lab_ w_ 14 g29 63 [.int .i64 x18.Peer, .slice oa23 x18.Key.length c24, .slice oa26 x18.Data.length c27, .int .i64 x18.Until] ∧ SL Rep.u8 lab_ w_ oa23 c24 x18.Key ∧ SL Rep.u8 lab_ w_ oa26 c27 x18.Data ∧ True), ?_, ⟨cx, s3, b36, s25, s28, trivial⟩, ?_, ?_⟩
                · exact ⟨by rintro i_ L_ lab_ w_ lab2_ w2_ v_ hne_ hd_ hk_ hp_ ⟨hv_, _⟩; exact ⟨hv_, trivial⟩, by rintro i_ L_ lab_ w_ lab2_ w2_ v_ hne_ hd_ hk_ hp_ ⟨hv_, _⟩; exact ⟨hv_, trivial⟩, by rintro i_ L_ lab_ w_ lab2_ w2_ v_ hne_ hd_ hk_ hp_ ⟨hv_, _⟩; exact ⟨hv_, trivial⟩, by rintro i_ L_ lab_ w_ lab2_ w2_ v_ hne_ hd_ hk_ hp_ ⟨hv_, _⟩; exact ⟨hv_, trivial⟩, by rintro i_ L_ lab_ w_ lab2_ w2_ v_ hne_ hd_ hk_ hp_ ⟨hv_, _⟩; exact ⟨hv_, trivial⟩, by rintro i_ L_ lab_ w_ lab2_ w2_ v_ hne_ hd_ hk_ hp_ ⟨hv_, _⟩; exact ⟨hv_, trivial⟩, by rintro i_ L_ lab_ w_ lab2_ w2_ v_ hne_ hd_ hk_ hp_ ⟨hv_, _⟩; exact ⟨hv_, trivial⟩, by rintro i_ L_ lab_ w_ lab2_ w2_ v_ hne_ hd_ hk_ hp_ ⟨hv_, _⟩; exact ⟨hv_, trivial⟩, by rintro i_ L_ lab_ w_ lab2_ w2_ v_ hne_ hd_ hk_ hp_ ⟨hv_, _⟩; exact ⟨hv_, trivial⟩, by rintro i_ L_ lab_ w_ lab2_ w2_ v_ hne_ hd_ hk_ hp_ ⟨hv_, _⟩; exact ⟨hv_, trivial⟩, by rintro i_ L_ lab_ w_ lab2_ w2_ v_ hne_ hd_ hk_ hp_ ⟨hv_, _⟩; exact ⟨hv_, trivial⟩, by rintro i_ L_ lab_ w_ lab2_ w2_ v_ hne_ hd_ hk_ hp_ ⟨hv_, _⟩; exact ⟨hv_, trivial⟩, by rintro i_ L_ lab_ w_ lab2_ w2_ v_ hne_ hd_ hk_ hp_ ⟨hv_, _⟩; exact ⟨hv_, trivial⟩, by rintro i_ L_ lab_ w_ lab2_ w2_ v_ hne_ hd_ hk_ hp_ ⟨hv_, _⟩; exact ⟨hv_, trivial⟩, by rintro i_ L_ lab_ w_ lab2_ w2_ v_ hne_ hd_ hk_ hp_ ⟨hv_, _⟩; exact ⟨hv_, trivial⟩, by rintro i_ L_ lab_ w_ lab2_ w2_ v_ hne_ hd_ hk_ hp_ ⟨hv_, _⟩; exact ⟨hv_, trivial⟩, by rintro i_ L_ lab_ w_ lab2_ w2_ v_ hne_ hd_ hk_ hp_ ⟨hv_, _⟩; exact ⟨hv_, trivial⟩, by rintro i_ L_ lab_ w_ lab2_ w2_ v_ hne_ hd_ hk_ hp_ ⟨hv_, _⟩; exact ⟨hv_, trivial⟩, by rintro i_ L_ lab_ w_ lab2_ w2_ v_ hne_ hd_ hk_ hp_ ⟨hv_, _⟩; exact ⟨hv_, trivial⟩, by rintro i_ L_ lab_ w_ lab2_ w2_ v_ hne_ hd_ hk_ hp_ ⟨hv_, _⟩; exact ⟨hv_, trivial⟩, by rintro i_ L_ lab_ w_ lab2_ w2_ v_ hne_ hd_ hk_ hp_ ⟨hv_, _⟩; exact ⟨hv_, trivial⟩, by rintro i_ L_ lab_ w_ lab2_ w2_ v_ hne_ hd_ hk_ hp_ ⟨hv_, _⟩; exact ⟨hv_, trivial⟩, by rintro i_ L_ lab_ w_ lab2_ w2_ v_ hne_ hd_ hk_ hp_ ⟨hv_, _⟩; exact ⟨hv_, trivial⟩, by rintro i_ L_ lab_ w_ lab2_ w2_ v_ hne_ hd_ hk_ hp_ ⟨hv_, _⟩; exact ⟨hv_, trivial⟩, by rintro i_ L_ lab_ w_ lab2_ w2_ v_ hne_ hd_ hk_ hp_ ⟨hv_, _⟩; exact ⟨hv_, trivial⟩, by rintro i_ L_ lab_ w_ lab2_ w2_ v_ hne_ hd_ hk_ hp_ ⟨hv_, _⟩; exact ⟨hv_, trivial⟩, by rintro i_ L_ lab_ w_ lab2_ w2_ v_ hne_ hd_ hk_ hp_ ⟨hv_, _⟩; exact ⟨hv_, trivial⟩, by rintro i_ L_ lab_ w_ lab2_ w2_ v_ hne_ hd_ hk_ hp_ ⟨hv_, _⟩; exact ⟨hv_, trivial⟩, by rintro i_ L_ lab_ w_ lab2_ w2_ v_ hne_ hd_ hk_ hp_ ⟨hv_, _⟩; exact ⟨hv_, trivial⟩, by rintro i_ L_ lab_ w_ lab2_ w2_ v_ hne_ hd_ hk_ hp_ ⟨hv_, _⟩; exact ⟨hv_, trivial⟩, by rintro i_ L_ lab_ w_ lab2_ w2_ v_ hne_ hd_ hk_ hp_ ⟨hv_, _⟩; exact ⟨hv_, trivial⟩, by rintro i_ L_ lab_ w_ lab2_ w2_ v_ hne_ hd_ hk_ hp_ ⟨hv_, _⟩; exact ⟨hv_, trivial⟩, by rintro i_ L_ lab_ w_ lab2_ w2_ v_ hne_ hd_ hk_ hp_ ⟨hv_, _⟩; exact ⟨hv_, trivial⟩, by rintro i_ L_ lab_ w_ lab2_ w2_ v_ hne_ hd_ hk_ hp_ ⟨hv_, _⟩; exact ⟨hv_, trivial⟩, by rintro i_ L_ lab_ w_ lab2_ w2_ v_ hne_ hd_ hk_ hp_ ⟨hv_, _⟩; exact ⟨hv_, trivial⟩, by rintro i_ L_ lab_ w_ lab2_ w2_ v_ hne_ hd_ hk_ hp_ ⟨hv_, _⟩; exact ⟨hv_, trivial⟩, trivial⟩
                · refine (ob_succ (ob_succ (ob_succ (ob_succ (ob_succ (ob_succ (ob_succ (ob_succ (ob_succ (ob_succ (ob_succ (ob_succ (ob_succ (ob_succ (ob_succ (ob_succ (ob_succ (ob_succ (ob_succ (ob_succ (ob_succ (ob_succ (ob_succ (ob_succ (ob_succ (ob_succ (ob_succ (ob_succ (ob_succ (ob_succ (ob_succ (ob_succ (ob_succ (ob_succ (ob_succ (ob_succ ob_nil ?_) ?_) ?_) ?_) ?_) ?_) ?_) ?_) ?_) ?_) ?_) ?_) ?_) ?_) ?_) ?_) ?_) ?_) ?_) ?_) ?_) ?_) ?_) ?_) ?_) ?_) ?_) ?_) ?_) ?_) ?_) ?_) ?_) ?_) ?_) ?_)
                  · intro o_ L_ F_ lab_ w_ ho_ hL_ hw_ hcl_ hb_ hr_ hq_; obtain rfl := Option.some.inj (ho_ : some _ = some o_); obtain ⟨cx, s3, b36, s25, s28, _⟩ := hq_
                    have hl4 := hb_ 4 _ rfl
                    refine LW.fldB 0 kFld_63_0 rfl wn rfl hl4 ?_
                    refine LW.nil ?_; intro a_ ha_
                    exact ⟨rfl, _, _, ha_, ⟨rfl, trivial⟩, Ke.refl, cx, s3, b36, s25, s28, trivial⟩
                  · intro o_ L_ F_ lab_ w_ ho_ hL_ hw_ hcl_ hb_ hr_ hq_; obtain rfl := Option.some.inj (ho_ : some _ = some o_); obtain ⟨cx, s3, b36, s25, s28, _⟩ := hq_
                    obtain ⟨q41, hl15, rfl, _⟩ := hr_ 0 (by decide) (hw_ 0 (by kernel_rfl))
                    replace hl15 : Gk.look F_ 15 = some (.pointer (some ⟨g29, 0, none⟩)) := hl15
                    refine LW.loadB1 b36 kOne_3 rfl wn rfl hl15 ?_
                    refine LW.nil ?_; intro a_ ha_
                    exact ⟨rfl, _, _, ha_, ⟨rfl, trivial⟩, Ke.refl, cx, s3, b36, s25, s28, trivial⟩
                  · intro o_ L_ F_ lab_ w_ ho_ hL_ hw_ hcl_ hb_ hr_ hq_; obtain rfl := Option.some.inj (ho_ : some _ = some o_); obtain ⟨cx, s3, b36, s25, s28, _⟩ := hq_
                    obtain ⟨q42, hl16, rfl, _⟩ := hr_ 1 (by decide) (hw_ 1 (by kernel_rfl))
                    replace hl16 : Gk.look F_ 16 = some (.int .i64 x18.Peer) := hl16
                    refine LW.lss (letm_eq hx_x43) wn rfl hl16 rfl ?_; intro x_ hx_; cases hx_
                    refine LW.nil ?_; intro a_ ha_
                    exact ⟨rfl, _, _, ha_, ⟨rfl, trivial⟩, Ke.refl, cx, s3, b36, s25, s28, trivial⟩
                  · intro o_ L_ F_ lab_ w_ ho_ hL_ hw_ hcl_ hb_ hr_ hq_; obtain rfl := Option.some.inj (ho_ : some _ = some o_); obtain ⟨cx, s3, b36, s25, s28, _⟩ := hq_
                    obtain ⟨q44, hl17, rfl, _⟩ := hr_ 2 (by decide) (hw_ 2 (by kernel_rfl))
                    replace hl17 : Gk.look F_ 17 = some (.bool x43) := hl17
                    refine LW.move wn rfl hl17 ?_
                    refine LW.nil ?_; intro a_ ha_
                    exact ⟨rfl, _, _, ha_, ⟨rfl, trivial⟩, Ke.refl, cx, s3, b36, s25, s28, trivial⟩
                  · intro o_ L_ F_ lab_ w_ ho_ hL_ hw_ hcl_ hb_ hr_ hq_; obtain rfl := Option.some.inj (ho_ : some _ = some o_); obtain ⟨cx, s3, b36, s25, s28, _⟩ := hq_
                    have hl4 := hb_ 4 _ rfl
                    obtain ⟨q63, hl18, rfl, _⟩ := hr_ 3 (by decide) (hw_ 3 (by kernel_rfl))
                    replace hl18 : Gk.look F_ 18 = some (.bool x43) := hl18
                    refine LW.fldB 0 kFld_63_0 rfl (ws 18 rfl (bk hl18 hb45)) rfl hl4 ?_
                    refine LW.nil ?_; intro a_ ha_
                    exact ⟨rfl, _, _, ha_, ⟨rfl, trivial⟩, Ke.refl, cx, s3, b36, s25, s28, trivial⟩
                  · intro o_ L_ F_ lab_ w_ ho_ hL_ hw_ hcl_ hb_ hr_ hq_; obtain rfl := Option.some.inj (ho_ : some _ = some o_); obtain ⟨cx, s3, b36, s25, s28, _⟩ := hq_
                    obtain ⟨q64, hl19, rfl, _⟩ := hr_ 4 (by decide) (hw_ 4 (by kernel_rfl))
                    replace hl19 : Gk.look F_ 19 = some (.pointer (some ⟨g29, 0, none⟩)) := hl19
                    obtain ⟨q65, hl18, rfl, _⟩ := hr_ 3 (by decide) (hw_ 3 (by kernel_rfl))
                    replace hl18 : Gk.look F_ 18 = some (.bool x43) := hl18
                    refine LW.loadB1 b36 kOne_3 rfl (ws 18 rfl (bk hl18 hb45)) rfl hl19 ?_
                    refine LW.nil ?_; intro a_ ha_
                    exact ⟨rfl, _, _, ha_, ⟨rfl, trivial⟩, Ke.refl, cx, s3, b36, s25, s28, trivial⟩
                  · intro o_ L_ F_ lab_ w_ ho_ hL_ hw_ hcl_ hb_ hr_ hq_; obtain rfl := Option.some.inj (ho_ : some _ = some o_); obtain ⟨cx, s3, b36, s25, s28, _⟩ := hq_
                    obtain ⟨q66, hl20, rfl, _⟩ := hr_ 5 (by decide) (hw_ 5 (by kernel_rfl))
                    replace hl20 : Gk.look F_ 20 = some (.int .i64 x18.Peer) := hl20
                    obtain ⟨q67, hl18, rfl, _⟩ := hr_ 3 (by decide) (hw_ 3 (by kernel_rfl))
                    replace hl18 : Gk.look F_ 18 = some (.bool x43) := hl18
                    refine LW.gtr (letm_eq hx_x68) (ws 18 rfl (bk hl18 hb45)) rfl hl20 rfl ?_; intro x_ hx_; cases hx_
                    refine LW.nil ?_; intro a_ ha_
                    exact ⟨rfl, _, _, ha_, ⟨rfl, trivial⟩, Ke.refl, cx, s3, b36, s25, s28, trivial⟩
                  · intro o_ L_ F_ lab_ w_ ho_ hL_ hw_ hcl_ hb_ hr_ hq_; obtain rfl := Option.some.inj (ho_ : some _ = some o_); obtain ⟨cx, s3, b36, s25, s28, _⟩ := hq_
                    obtain ⟨q69, hl18, rfl, _⟩ := hr_ 3 (by decide) (hw_ 3 (by kernel_rfl))
                    replace hl18 : Gk.look F_ 18 = some (.bool x43) := hl18
                    obtain ⟨q70, hl21, rfl, _⟩ := hr_ 6 (by decide) (hw_ 6 (by kernel_rfl))
                    replace hl21 : Gk.look F_ 21 = some (.bool x68) := hl21
                    refine LW.pick_f wn rfl (bk hl18 hb45) hl21 ?_
                    refine LW.nil ?_; intro a_ ha_
                    exact ⟨rfl, _, _, ha_, ⟨rfl, trivial⟩, Ke.refl, cx, s3, b36, s25, s28, trivial⟩
                  · intro o_ L_ F_ lab_ w_ ho_ hL_ hw_ hcl_ hb_ hr_ hq_; obtain rfl := Option.some.inj (ho_ : some _ = some o_); obtain ⟨cx, s3, b36, s25, s28, _⟩ := hq_
                    obtain ⟨q71, hl22, rfl, _⟩ := hr_ 7 (by decide) (hw_ 7 (by kernel_rfl))
                    replace hl22 : Gk.look F_ 22 = some (.bool x68) := hl22
                    refine LW.move wn rfl hl22 ?_
                    refine LW.nil ?_; intro a_ ha_
                    exact ⟨rfl, _, _, ha_, ⟨rfl, trivial⟩, Ke.refl, cx, s3, b36, s25, s28, trivial⟩
                  · intro o_ L_ F_ lab_ w_ ho_ hL_ hw_ hcl_ hb_ hr_ hq_; obtain rfl := Option.some.inj (ho_ : some _ = some o_); obtain ⟨cx, s3, b36, s25, s28, _⟩ := hq_
                    have hl4 := hb_ 4 _ rfl
                    obtain ⟨q87, hl23, rfl, _⟩ := hr_ 8 (by decide) (hw_ 8 (by kernel_rfl))
                    replace hl23 : Gk.look F_ 23 = some (.bool x68) := hl23
                    refine LW.fldB 1 kFld_63_1 rfl (ws 23 rfl (bk hl23 hb72)) rfl hl4 ?_
                    refine LW.nil ?_; intro a_ ha_
                    exact ⟨rfl, _, _, ha_, ⟨rfl, trivial⟩, Ke.refl, cx, s3, b36, s25, s28, trivial⟩
                  · intro o_ L_ F_ lab_ w_ ho_ hL_ hw_ hcl_ hb_ hr_ hq_; obtain rfl := Option.some.inj (ho_ : some _ = some o_); obtain ⟨cx, s3, b36, s25, s28, _⟩ := hq_
                    obtain ⟨q88, hl24, rfl, _⟩ := hr_ 9 (by decide) (hw_ 9 (by kernel_rfl))
                    replace hl24 : Gk.look F_ 24 = some (.pointer (some ⟨g29, 1, none⟩)) := hl24
                    obtain ⟨q89, hl23, rfl, _⟩ := hr_ 8 (by decide) (hw_ 8 (by kernel_rfl))
                    replace hl23 : Gk.look F_ 23 = some (.bool x68) := hl23
                    refine LW.loadB1 b36 kOne_24 rfl (ws 23 rfl (bk hl23 hb72)) rfl hl24 ?_
                    refine LW.nil ?_; intro a_ ha_
                    exact ⟨rfl, _, _, ha_, ⟨rfl, trivial⟩, Ke.refl, cx, s3, b36, s25, s28, trivial⟩
                  · intro o_ L_ F_ lab_ w_ ho_ hL_ hw_ hcl_ hb_ hr_ hq_; obtain rfl := Option.some.inj (ho_ : some _ = some o_); obtain ⟨cx, s3, b36, s25, s28, _⟩ := hq_
                    obtain ⟨q90, hl25, rfl, _⟩ := hr_ 10 (by decide) (hw_ 10 (by kernel_rfl))
                    replace hl25 : Gk.look F_ 25 = some (.slice oa23 x18.Key.length c24) := hl25
                    obtain ⟨q91, hl23, rfl, _⟩ := hr_ 8 (by decide) (hw_ 8 (by kernel_rfl))
                    replace hl23 : Gk.look F_ 23 = some (.bool x68) := hl23
                    refine LW.len kUnd_24 (ws 23 rfl (bk hl23 hb72)) rfl hl25 ?_
                    refine LW.nil ?_; intro a_ ha_
                    exact ⟨rfl, _, _, ha_, ⟨rfl, trivial⟩, Ke.refl, cx, s3, b36, s25, s28, trivial⟩
                  · intro o_ L_ F_ lab_ w_ ho_ hL_ hw_ hcl_ hb_ hr_ hq_; obtain rfl := Option.some.inj (ho_ : some _ = some o_); obtain ⟨cx, s3, b36, s25, s28, _⟩ := hq_
                    obtain ⟨q92, hl26, rfl, _⟩ := hr_ 11 (by decide) (hw_ 11 (by kernel_rfl))
                    replace hl26 : Gk.look F_ 26 = some (.int .i64 (x18.Key.length : Int)) := hl26
                    obtain ⟨q93, hl23, rfl, _⟩ := hr_ 8 (by decide) (hw_ 8 (by kernel_rfl))
                    replace hl23 : Gk.look F_ 23 = some (.bool x68) := hl23
                    refine LW.gtr (letm_eq hx_x94) (ws 23 rfl (bk hl23 hb72)) rfl hl26 rfl ?_; intro x_ hx_; cases hx_
                    refine LW.nil ?_; intro a_ ha_
                    exact ⟨rfl, _, _, ha_, ⟨rfl, trivial⟩, Ke.refl, cx, s3, b36, s25, s28, trivial⟩
                  · intro o_ L_ F_ lab_ w_ ho_ hL_ hw_ hcl_ hb_ hr_ hq_; obtain rfl := Option.some.inj (ho_ : some _ = some o_); obtain ⟨cx, s3, b36, s25, s28, _⟩ := hq_
                    obtain ⟨q95, hl23, rfl, _⟩ := hr_ 8 (by decide) (hw_ 8 (by kernel_rfl))
                    replace hl23 : Gk.look F_ 23 = some (.bool x68) := hl23
                    obtain ⟨q96, hl27, rfl, _⟩ := hr_ 12 (by decide) (hw_ 12 (by kernel_rfl))
                    replace hl27 : Gk.look F_ 27 = some (.bool x94) := hl27
                    refine LW.pick_f wn rfl (bk hl23 hb72) hl27 ?_
                    refine LW.nil ?_; intro a_ ha_
                    exact ⟨rfl, _, _, ha_, ⟨rfl, trivial⟩, Ke.refl, cx, s3, b36, s25, s28, trivial⟩
                  · intro o_ L_ F_ lab_ w_ ho_ hL_ hw_ hcl_ hb_ hr_ hq_; obtain rfl := Option.some.inj (ho_ : some _ = some o_); obtain ⟨cx, s3, b36, s25, s28, _⟩ := hq_
                    obtain ⟨q97, hl28, rfl, _⟩ := hr_ 13 (by decide) (hw_ 13 (by kernel_rfl))
                    replace hl28 : Gk.look F_ 28 = some (.bool x94) := hl28
                    refine LW.move wn rfl hl28 ?_
                    refine LW.nil ?_; intro a_ ha_
                    exact ⟨rfl, _, _, ha_, ⟨rfl, trivial⟩, Ke.refl, cx, s3, b36, s25, s28, trivial⟩
                  · exact ob_skip (b' := true) 14 rfl (by kernel_rfl) (by decide) ⟨_, rfl⟩ (fun _ _ _ _ h_ => .inl (h_.1.trans (congrArg Value.bool hb98))) rfl rfl (fun _ _ _ => ⟨rfl, trivial⟩) (fun _ _ _ h_ => h_)
                  · exact ob_skip (b' := true) 14 rfl (by kernel_rfl) (by decide) ⟨_, rfl⟩ (fun _ _ _ _ h_ => .inl (h_.1.trans (congrArg Value.bool hb98))) rfl rfl (fun _ _ _ => ⟨rfl, trivial⟩) (fun _ _ _ h_ => h_)
                  · exact ob_skip (b' := true) 14 rfl (by kernel_rfl) (by decide) ⟨_, rfl⟩ (fun _ _ _ _ h_ => .inl (h_.1.trans (congrArg Value.bool hb98))) rfl rfl (fun _ _ _ => ⟨rfl, trivial⟩) (fun _ _ _ h_ => h_)
                  · exact ob_skip (b' := true) 14 rfl (by kernel_rfl) (by decide) ⟨_, rfl⟩ (fun _ _ _ _ h_ => .inl (h_.1.trans (congrArg Value.bool hb98))) rfl rfl (fun _ _ _ => ⟨rfl, trivial⟩) (fun _ _ _ h_ => h_)
                  · intro o_ L_ F_ lab_ w_ ho_ hL_ hw_ hcl_ hb_ hr_ hq_; obtain rfl := Option.some.inj (ho_ : some _ = some o_); obtain ⟨cx, s3, b36, s25, s28, _⟩ := hq_
                    obtain ⟨q99, hl29, rfl, _⟩ := hr_ 14 (by decide) (hw_ 14 (by kernel_rfl))
                    replace hl29 : Gk.look F_ 29 = some (.bool x94) := hl29
                    obtain ⟨q100, hl33, rfl, _⟩ := hr_ 18 (by decide) (hw_ 18 (by kernel_rfl))
                    replace hl33 : Gk.look F_ 33 = some (undef) := hl33
                    refine LW.pick_t wn rfl (bk hl29 hb98) rfl ?_
                    refine LW.nil ?_; intro a_ ha_
                    exact ⟨rfl, _, _, ha_, ⟨rfl, trivial⟩, Ke.refl, cx, s3, b36, s25, s28, trivial⟩
                  · intro o_ L_ F_ lab_ w_ ho_ hL_ hw_ hcl_ hb_ hr_ hq_; obtain rfl := Option.some.inj (ho_ : some _ = some o_); obtain ⟨cx, s3, b36, s25, s28, _⟩ := hq_
                    obtain ⟨q101, hl34, rfl, _⟩ := hr_ 19 (by decide) (hw_ 19 (by kernel_rfl))
                    replace hl34 : Gk.look F_ 34 = some (.bool true) := hl34
                    refine LW.move wn rfl hl34 ?_
                    refine LW.nil ?_; intro a_ ha_
                    exact ⟨rfl, _, _, ha_, ⟨rfl, trivial⟩, Ke.refl, cx, s3, b36, s25, s28, trivial⟩
                  · exact ob_skip (b' := true) 20 rfl (by kernel_rfl) (by decide) ⟨_, rfl⟩ (fun _ _ _ _ h_ => .inl h_.1) rfl rfl (fun _ _ _ => ⟨rfl, trivial⟩) (fun _ _ _ h_ => h_)
                  · exact ob_skip (b' := true) 20 rfl (by kernel_rfl) (by decide) ⟨_, rfl⟩ (fun _ _ _ _ h_ => .inl h_.1) rfl rfl (fun _ _ _ => ⟨rfl, trivial⟩) (fun _ _ _ h_ => h_)
                  · exact ob_skip (b' := true) 20 rfl (by kernel_rfl) (by decide) ⟨_, rfl⟩ (fun _ _ _ _ h_ => .inl h_.1) rfl rfl (fun _ _ _ => ⟨rfl, trivial⟩) (fun _ _ _ h_ => h_)
                  · intro o_ L_ F_ lab_ w_ ho_ hL_ hw_ hcl_ hb_ hr_ hq_; obtain rfl := Option.some.inj (ho_ : some _ = some o_); obtain ⟨cx, s3, b36, s25, s28, _⟩ := hq_
                    obtain ⟨q102, hl35, rfl, _⟩ := hr_ 20 (by decide) (hw_ 20 (by kernel_rfl))
                    replace hl35 : Gk.look F_ 35 = some (.bool true) := hl35
                    obtain ⟨q103, hl38, rfl, _⟩ := hr_ 23 (by decide) (hw_ 23 (by kernel_rfl))
                    replace hl38 : Gk.look F_ 38 = some (undef) := hl38
                    refine LW.pick_t wn rfl hl35 rfl ?_
                    refine LW.nil ?_; intro a_ ha_
                    exact ⟨rfl, _, _, ha_, ⟨rfl, trivial⟩, Ke.refl, cx, s3, b36, s25, s28, trivial⟩
                  · intro o_ L_ F_ lab_ w_ ho_ hL_ hw_ hcl_ hb_ hr_ hq_; obtain rfl := Option.some.inj (ho_ : some _ = some o_); obtain ⟨cx, s3, b36, s25, s28, _⟩ := hq_
                    obtain ⟨q104, hl39, rfl, _⟩ := hr_ 24 (by decide) (hw_ 24 (by kernel_rfl))
                    replace hl39 : Gk.look F_ 39 = some (.bool true) := hl39
                    refine LW.move wn rfl hl39 ?_
                    refine LW.nil ?_; intro a_ ha_
                    exact ⟨rfl, _, _, ha_, ⟨rfl, trivial⟩, Ke.refl, cx, s3, b36, s25, s28, trivial⟩
                  · exact ob_skip (b' := true) 25 rfl (by kernel_rfl) (by decide) ⟨_, rfl⟩ (fun _ _ _ _ h_ => .inl h_.1) rfl rfl (fun _ _ _ => ⟨rfl, trivial⟩) (fun _ _ _ h_ => h_)
                  · exact ob_skip (b' := true) 25 rfl (by kernel_rfl) (by decide) ⟨_, rfl⟩ (fun _ _ _ _ h_ => .inl h_.1) rfl rfl (fun _ _ _ => ⟨rfl, trivial⟩) (fun _ _ _ h_ => h_)
                  · exact ob_skip (b' := true) 25 rfl (by kernel_rfl) (by decide) ⟨_, rfl⟩ (fun _ _ _ _ h_ => .inl h_.1) rfl rfl (fun _ _ _ => ⟨rfl, trivial⟩) (fun _ _ _ h_ => h_)
                  · exact ob_skip (b' := true) 25 rfl (by kernel_rfl) (by decide) ⟨_, rfl⟩ (fun _ _ _ _ h_ => .inl h_.1) rfl rfl (fun _ _ _ => ⟨rfl, trivial⟩) (fun _ _ _ h_ => h_)
                  · exact ob_skip (b' := true) 25 rfl (by kernel_rfl) (by decide) ⟨_, rfl⟩ (fun _ _ _ _ h_ => .inl h_.1) rfl rfl (fun _ _ _ => ⟨rfl, trivial⟩) (fun _ _ _ h_ => h_)
                  · exact ob_skip (b' := true) 25 rfl (by kernel_rfl) (by decide) ⟨_, rfl⟩ (fun _ _ _ _ h_ => .inl h_.1) rfl rfl (fun _ _ _ => ⟨rfl, trivial⟩) (fun _ _ _ h_ => h_)
                  · exact ob_skip (b' := true) 25 rfl (by kernel_rfl) (by decide) ⟨_, rfl⟩ (fun _ _ _ _ h_ => .inl h_.1) rfl rfl (fun _ _ _ => ⟨rfl, trivial⟩) (fun _ _ _ h_ => h_)
                  · exact ob_skip (b' := true) 25 rfl (by kernel_rfl) (by decide) ⟨_, rfl⟩ (fun _ _ _ _ h_ => .inl h_.1) rfl rfl (fun _ _ _ => ⟨rfl, trivial⟩) (fun _ _ _ h_ => h_)
                  · exact ob_skip (b' := true) 25 rfl (by kernel_rfl) (by decide) ⟨_, rfl⟩ (fun _ _ _ _ h_ => .inl h_.1) rfl rfl (fun _ _ _ => ⟨rfl, trivial⟩) (fun _ _ _ h_ => h_)
                  · intro o_ L_ F_ lab_ w_ ho_ hL_ hw_ hcl_ hb_ hr_ hq_; obtain rfl := Option.some.inj (ho_ : some _ = some o_); obtain ⟨cx, s3, b36, s25, s28, _⟩ := hq_
                    obtain ⟨q105, hl40, rfl, _⟩ := hr_ 25 (by decide) (hw_ 25 (by kernel_rfl))
                    replace hl40 : Gk.look F_ 40 = some (.bool true) := hl40
                    obtain ⟨q106, hl49, rfl, _⟩ := hr_ 34 (by decide) (hw_ 34 (by kernel_rfl))
                    replace hl49 : Gk.look F_ 49 = some (undef) := hl49
                    refine LW.pick_t wn rfl hl40 rfl ?_
                    refine LW.nil ?_; intro a_ ha_
                    exact ⟨rfl, _, _, ha_, ⟨rfl, trivial⟩, Ke.refl, cx, s3, b36, s25, s28, trivial⟩
                · intro F_ lab_ w_ hb_ hr_ hq_; obtain ⟨cx, s3, b36, s25, s28, _⟩ := hq_
                  obtain ⟨q109, hl50, rfl, _⟩ := hr_ 35 (by decide)
                  refine LW.sub (G := [(0, .slice oa1 a0.length c2), (3, .int .i64 ((k16 : Nat) : Int)), (4, .pointer (some ⟨g29, 0, none⟩)), (8, .slice oa1 a0.length c2), (9, .int .i64 (a0.length : Int)), (10, .int .i64 ((k16 : Nat) : Int)), (50, .bool true)]) ⟨hb_ 0 _ rfl, hb_ 3 _ rfl, hb_ 4 _ rfl, hb_ 8 _ rfl, hb_ 9 _ rfl, hb_ 10 _ rfl, hl50, trivial⟩ ?_
                  simp only [List.drop_succ_cons, List.drop_nil, List.drop_zero]
                  refine LW.nil ?_
                  obtain rfl := Option.some.inj hm
                  refine EW.sub (G := [(0, .slice oa1 a0.length c2), (8, .slice oa1 a0.length c2), (9, .int .i64 (a0.length : Int)), (10, .int .i64 ((k16 : Nat) : Int)), (50, .bool true)]) ⟨rfl, rfl, rfl, rfl, rfl, trivial⟩ ?_
                  exact EW.join_n ⟨_, rfl, cx, s3, trivial⟩
              · replace hm := cond_f hm hb98
                obtain ⟨x117, hx_x117, hm_⟩ := letm_some hm; clear hm; have hm := hm_; clear hm_
                rcases Bool.eq_false_or_eq_true x117 with hb121 | hb121
                · replace hm := cond_t hm hb121
                  refine CW.sub (G := [(0, .slice oa1 a0.length c2), (3, .int .i64 ((k16 : Nat) : Int)), (4, .pointer (some ⟨g29, 0, none⟩)), (8, .slice oa1 a0.length c2), (9, .int .i64 (a0.length : Int)), (10, .int .i64 ((k16 : Nat) : Int))]) ⟨rfl, rfl, rfl, rfl, rfl, rfl, trivial⟩ ?_
                  refine CW.drawL (fun i_ => []) (fun i_ => by (try dsimp only); (repeat' split) <;> rfl) kMix_ 36 (by kernel_rfl) cx.top ?_
                  intro w127 e128
                  replace cx := cx.step e128 rfl
                  replace s3 := s3.step e128
                  replace b36 := b36.step e128 rfl
                  replace s25 := s25.step e128
                  replace s28 := s28.step e128
                  clear e128
                  refine ⟨[(fun L_ lab_ w_ v_ => v_ = .pointer (some ⟨g29, 0, none⟩) ∧ True),
    (fun L_ lab_ w_ v_ => v_ = .int .i64 x18.Peer ∧ True),
    (fun L_ lab_ w_ v_ => v_ = .bool x43 ∧ True),
    (fun L_ lab_ w_ v_ => v_ = .bool x43 ∧ True),
    (fun L_ lab_ w_ v_ => v_ = .pointer (some ⟨g29, 0, none⟩) ∧ True),
    (fun L_ lab_ w_ v_ => v_ = .int .i64 x18.Peer ∧ True),
    (fun L_ lab_ w_ v_ => v_ = .bool x68 ∧ True),
    (fun L_ lab_ w_ v_ => v_ = .bool x68 ∧ True),
    (fun L_ lab_ w_ v_ => v_ = .bool x68 ∧ True),
    (fun L_ lab_ w_ v_ => v_ = .pointer (some ⟨g29, 1, none⟩) ∧ True),
    (fun L_ lab_ w_ v_ => v_ = .slice oa23 x18.Key.length c24 ∧ True),
    (fun L_ lab_ w_ v_ => v_ = .int .i64 (x18.Key.length : Int) ∧ True),
    (fun L_ lab_ w_ v_ => v_ = .bool x94 ∧ True),
    (fun L_ lab_ w_ v_ => v_ = .bool x94 ∧ True),
    (fun L_ lab_ w_ v_ => v_ = .bool x94 ∧ True),
    (fun L_ lab_ w_ v_ => v_ = .pointer (some ⟨g29, 2, none⟩) ∧ True),
    (fun L_ lab_ w_ v_ => v_ = .slice oa26 x18.Data.length c27 ∧ True),
    (fun L_ lab_ w_ v_ => v_ = .int .i64 (x18.Data.length : Int) ∧ True),
    (fun L_ lab_ w_ v_ => v_ = .bool x117 ∧ True),
    (fun L_ lab_ w_ v_ => v_ = .bool x117 ∧ True),
    (fun L_ lab_ w_ v_ => v_ = .bool x117 ∧ True),
    (fun L_ lab_ w_ v_ => v_ = undef ∧ True),
    (fun L_ lab_ w_ v_ => v_ = undef ∧ True),
    (fun L_ lab_ w_ v_ => v_ = undef ∧ True),
    (fun L_ lab_ w_ v_ => v_ = .bool true ∧ True),
    (fun L_ lab_ w_ v_ => v_ = .bool true ∧ True),
    (fun L_ lab_ w_ v_ => v_ = undef ∧ True),
    (fun L_ lab_ w_ v_ => v_ = undef ∧ True),
    (fun L_ lab_ w_ v_ => v_ = undef ∧ True),
    (fun L_ lab_ w_ v_ => v_ = undef ∧ True),
    (fun L_ lab_ w_ v_ => v_ = undef ∧ True),
    (fun L_ lab_ w_ v_ => v_ = undef ∧ True),
    (fun L_ lab_ w_ v_ => v_ = undef ∧ True),
    (fun L_ lab_ w_ v_ => v_ = undef ∧ True),
    (fun L_ lab_ w_ v_ => v_ = undef ∧ True),
    (fun L_ lab_ w_ v_ => v_ = .bool true ∧ True)], (fun L_ lab_ w_ => Cx [] w lab w_ lab_ ∧ SL R_api_Partial lab_ w_ oa1 c2 a0 ∧ Box lab_ w_ 14 g29 63 [.int .i64 x18.Peer, .slice oa23 x18.Key.length c24, .slice oa26 x18.Data.length c27, .int .i64 x18.Until] ∧ SL Rep.u8 lab_ w_ oa23 c24 x18.Key ∧ SL Rep.u8 lab_ w_ oa26 c27 x18.Data ∧ True), ?_, ⟨cx, s3, b36, s25, s28, trivial⟩, ?_, ?_⟩
                  · exact ⟨by rintro i_ L_ lab_ w_ lab2_ w2_ v_ hne_ hd_ hk_ hp_ ⟨hv_, _⟩; exact ⟨hv_, trivial⟩, by rintro i_ L_ lab_ w_ lab2_ w2_ v_ hne_ hd_ hk_ hp_ ⟨hv_, _⟩; exact ⟨hv_, trivial⟩, by rintro i_ L_ lab_ w_ lab2_ w2_ v_ hne_ hd_ hk_ hp_ ⟨hv_, _⟩; exact ⟨hv_, trivial⟩, by rintro i_ L_ lab_ w_ lab2_ w2_ v_ hne_ hd_ hk_ hp_ ⟨hv_, _⟩; exact ⟨hv_, trivial⟩, by rintro i_ L_ lab_ w_ lab2_ w2_ v_ hne_ hd_ hk_ hp_ ⟨hv_, _⟩; exact ⟨hv_, trivial⟩, by rintro i_ L_ lab_ w_ lab2_ w2_ v_ hne_ hd_ hk_ hp_ ⟨hv_, _⟩; exact ⟨hv_, trivial⟩, by rintro i_ L_ lab_ w_ lab2_ w2_ v_ hne_ hd_ hk_ hp_ ⟨hv_, _⟩; exact ⟨hv_, trivial⟩, by rintro i_ L_ lab_ w_ lab2_ w2_ v_ hne_ hd_ hk_ hp_ ⟨hv_, _⟩; exact ⟨hv_, trivial⟩, by rintro i_ L_ lab_ w_ lab2_ w2_ v_ hne_ hd_ hk_ hp_ ⟨hv_, _⟩; exact ⟨hv_, trivial⟩, by rintro i_ L_ lab_ w_ lab2_ w2_ v_ hne_ hd_ hk_ hp_ ⟨hv_, _⟩; exact ⟨hv_, trivial⟩, by rintro i_ L_ lab_ w_ lab2_ w2_ v_ hne_ hd_ hk_ hp_ ⟨hv_, _⟩; exact ⟨hv_, trivial⟩, by rintro i_ L_ lab_ w_ lab2_ w2_ v_ hne_ hd_ hk_ hp_ ⟨hv_, _⟩; exact ⟨hv_, trivial⟩, by rintro i_ L_ lab_ w_ lab2_ w2_ v_ hne_ hd_ hk_ hp_ ⟨hv_, _⟩; exact ⟨hv_, trivial⟩, by rintro i_ L_ lab_ w_ lab2_ w2_ v_ hne_ hd_ hk_ hp_ ⟨hv_, _⟩; exact ⟨hv_, trivial⟩, by rintro i_ L_ lab_ w_ lab2_ w2_ v_ hne_ hd_ hk_ hp_ ⟨hv_, _⟩; exact ⟨hv_, trivial⟩, by rintro i_ L_ lab_ w_ lab2_ w2_ v_ hne_ hd_ hk_ hp_ ⟨hv_, _⟩; exact ⟨hv_, trivial⟩, by rintro i_ L_ lab_ w_ lab2_ w2_ v_ hne_ hd_ hk_ hp_ ⟨hv_, _⟩; exact ⟨hv_, trivial⟩, by rintro i_ L_ lab_ w_ lab2_ w2_ v_ hne_ hd_ hk_ hp_ ⟨hv_, _⟩; exact ⟨hv_, trivial⟩, by rintro i_ L_ lab_ w_ lab2_ w2_ v_ hne_ hd_ hk_ hp_ ⟨hv_, _⟩; exact ⟨hv_, trivial⟩, by rintro i_ L_ lab_ w_ lab2_ w2_ v_ hne_ hd_ hk_ hp_ ⟨hv_, _⟩; exact ⟨hv_, trivial⟩, by rintro i_ L_ lab_ w_ lab2_ w2_ v_ hne_ hd_ hk_ hp_ ⟨hv_, _⟩; exact ⟨hv_, trivial⟩, by rintro i_ L_ lab_ w_ lab2_ w2_ v_ hne_ hd_ hk_ hp_ ⟨hv_, _⟩; exact ⟨hv_, trivial⟩, by rintro i_ L_ lab_ w_ lab2_ w2_ v_ hne_ hd_ hk_ hp_ ⟨hv_, _⟩; exact ⟨hv_, trivial⟩, by rintro i_ L_ lab_ w_ lab2_ w2_ v_ hne_ hd_ hk_ hp_ ⟨hv_, _⟩; exact ⟨hv_, trivial⟩, by rintro i_ L_ lab_ w_ lab2_ w2_ v_ hne_ hd_ hk_ hp_ ⟨hv_, _⟩; exact ⟨hv_, trivial⟩, by rintro i_ L_ lab_ w_ lab2_ w2_ v_ hne_ hd_ hk_ hp_ ⟨hv_, _⟩; exact ⟨hv_, trivial⟩, by rintro i_ L_ lab_ w_ lab2_ w2_ v_ hne_ hd_ hk_ hp_ ⟨hv_, _⟩; exact ⟨hv_, trivial⟩, by rintro i_ L_ lab_ w_ lab2_ w2_ v_ hne_ hd_ hk_ hp_ ⟨hv_, _⟩; exact ⟨hv_, trivial⟩, by rintro i_ L_ lab_ w_ lab2_ w2_ v_ hne_ hd_ hk_ hp_ ⟨hv_, _⟩; exact ⟨hv_, trivial⟩, by rintro i_ L_ lab_ w_ lab2_ w2_ v_ hne_ hd_ hk_ hp_ ⟨hv_, _⟩; exact ⟨hv_, trivial⟩, by rintro i_ L_ lab_ w_ lab2_ w2_ v_ hne_ hd_ hk_ hp_ ⟨hv_, _⟩; exact ⟨hv_, trivial⟩, by rintro i_ L_ lab_ w_ lab2_ w2_ v_ hne_ hd_ hk_ hp_ ⟨hv_, _⟩; exact ⟨hv_, trivial⟩, by rintro i_ L_ lab_ w_ lab2_ w2_ v_ hne_ hd_ hk_ hp_ ⟨hv_, _⟩; exact ⟨hv_, trivial⟩, by rintro i_ L_ lab_ w_ lab2_ w2_ v_ hne_ hd_ hk_ hp_ ⟨hv_, _⟩; exact ⟨hv_, trivial⟩, by rintro i_ L_ lab_ w_ lab2_ w2_ v_ hne_ hd_ hk_ hp_ ⟨hv_, _⟩; exact ⟨hv_, trivial⟩, by rintro i_ L_ lab_ w_ lab2_ w2_ v_ hne_ hd_ hk_ hp_ ⟨hv_, _⟩; exact ⟨hv_, trivial⟩, trivial⟩
                  · refine (ob_succ (ob_succ (ob_succ (ob_succ (ob_succ (ob_succ (ob_succ (ob_succ (ob_succ (ob_succ (ob_succ (ob_succ (ob_succ (ob_succ (ob_succ (ob_succ (ob_succ (ob_succ (ob_succ (ob_succ (ob_succ (ob_succ (ob_succ (ob_succ (ob_succ (ob_succ (ob_succ (ob_succ (ob_succ (ob_succ (ob_succ (ob_succ (ob_succ (ob_succ (ob_succ (ob_succ ob_nil ?_) ?_) ?_) ?_) ?_) ?_) ?_) ?_) ?_) ?_) ?_) ?_) ?_) ?_) ?_) ?_) ?_) ?_) ?_) ?_) ?_) ?_) ?_) ?_) ?_) ?_) ?_) ?_) ?_) ?_) ?_) ?_) ?_) ?_) ?_) ?_)
                    · intro o_ L_ F_ lab_ w_ ho_ hL_ hw_ hcl_ hb_ hr_ hq_; obtain rfl := Option.some.inj (ho_ : some _ = some o_); obtain ⟨cx, s3, b36, s25, s28, _⟩ := hq_
                      have hl4 := hb_ 4 _ rfl
                      refine LW.fldB 0 kFld_63_0 rfl wn rfl hl4 ?_
                      refine LW.nil ?_; intro a_ ha_
                      exact ⟨rfl, _, _, ha_, ⟨rfl, trivial⟩, Ke.refl, cx, s3, b36, s25, s28, trivial⟩
                    · intro o_ L_ F_ lab_ w_ ho_ hL_ hw_ hcl_ hb_ hr_ hq_; obtain rfl := Option.some.inj (ho_ : some _ = some o_); obtain ⟨cx, s3, b36, s25, s28, _⟩ := hq_
                      obtain ⟨q41, hl15, rfl, _⟩ := hr_ 0 (by decide) (hw_ 0 (by kernel_rfl))
                      replace hl15 : Gk.look F_ 15 = some (.pointer (some ⟨g29, 0, none⟩)) := hl15
                      refine LW.loadB1 b36 kOne_3 rfl wn rfl hl15 ?_
                      refine LW.nil ?_; intro a_ ha_
                      exact ⟨rfl, _, _, ha_, ⟨rfl, trivial⟩, Ke.refl, cx, s3, b36, s25, s28, trivial⟩
                    · intro o_ L_ F_ lab_ w_ ho_ hL_ hw_ hcl_ hb_ hr_ hq_; obtain rfl := Option.some.inj (ho_ : some _ = some o_); obtain ⟨cx, s3, b36, s25, s28, _⟩ := hq_
                      obtain ⟨q42, hl16, rfl, _⟩ := hr_ 1 (by decide) (hw_ 1 (by kernel_rfl))
                      replace hl16 : Gk.look F_ 16 = some (.int .i64 x18.Peer) := hl16
                      refine LW.lss (letm_eq hx_x43) wn rfl hl16 rfl ?_; intro x_ hx_; cases hx_
                      refine LW.nil ?_; intro a_ ha_
                      exact ⟨rfl, _, _, ha_, ⟨rfl, trivial⟩, Ke.refl, cx, s3, b36, s25, s28, trivial⟩
                    · intro o_ L_ F_ lab_ w_ ho_ hL_ hw_ hcl_ hb_ hr_ hq_; obtain rfl := Option.some.inj (ho_ : some _ = some o_); obtain ⟨cx, s3, b36, s25, s28, _⟩ := hq_
                      obtain ⟨q44, hl17, rfl, _⟩ := hr_ 2 (by decide) (hw_ 2 (by kernel_rfl))
                      replace hl17 : Gk.look F_ 17 = some (.bool x43) := hl17
                      refine LW.move wn rfl hl17 ?_
                      refine LW.nil ?_; intro a_ ha_
                      exact ⟨rfl, _, _, ha_, ⟨rfl, trivial⟩, Ke.refl, cx, s3, b36, s25, s28, trivial⟩
                    · intro o_ L_ F_ lab_ w_ ho_ hL_ hw_ hcl_ hb_ hr_ hq_; obtain rfl := Option.some.inj (ho_ : some _ = some o_); obtain ⟨cx, s3, b36, s25, s28, _⟩ := hq_
                      have hl4 := hb_ 4 _ rfl
                      obtain ⟨q63, hl18, rfl, _⟩ := hr_ 3 (by decide) (hw_ 3 (by kernel_rfl))
                      replace hl18 : Gk.look F_ 18 = some (.bool x43) := hl18
                      refine LW.fldB 0 kFld_63_0 rfl (ws 18 rfl (bk hl18 hb45)) rfl hl4 ?_
                      refine LW.nil ?_; intro a_ ha_
                      exact ⟨rfl, _, _, ha_, ⟨rfl, trivial⟩, Ke.refl, cx, s3, b36, s25, s28, trivial⟩
                    · intro o_ L_ F_ lab_ w_ ho_ hL_ hw_ hcl_ hb_ hr_ hq_; obtain rfl := Option.some.inj (ho_ : some _ = some o_); obtain ⟨cx, s3, b36, s25, s28, _⟩ := hq_
                      obtain ⟨q64, hl19, rfl, _⟩ := hr_ 4 (by decide) (hw_ 4 (by kernel_rfl))
                      replace hl19 : Gk.look F_ 19 = some (.pointer (some ⟨g29, 0, none⟩)) := hl19
                      obtain ⟨q65, hl18, rfl, _⟩ := hr_ 3 (by decide) (hw_ 3 (by kernel_rfl))
                      replace hl18 : Gk.look F_ 18 = some (.bool x43) := hl18
                      refine LW.loadB1 b36 kOne_3 rfl (ws 18 rfl (bk hl18 hb45)) rfl hl19 ?_
                      refine LW.nil ?_; intro a_ ha_
                      exact ⟨rfl, _, _, ha_, ⟨rfl, trivial⟩, Ke.refl, cx, s3, b36, s25, s28, trivial⟩
                    · intro o_ L_ F_ lab_ w_ ho_ hL_ hw_ hcl_ hb_ hr_ hq_; obtain rfl := Option.some.inj (ho_ : some _ = some o_); obtain ⟨cx, s3, b36, s25, s28, _⟩ := hq_
                      obtain ⟨q66, hl20, rfl, _⟩ := hr_ 5 (by decide) (hw_ 5 (by kernel_rfl))
                      replace hl20 : Gk.look F_ 20 = some (.int .i64 x18.Peer) := hl20
                      obtain ⟨q67, hl18, rfl, _⟩ := hr_ 3 (by decide) (hw_ 3 (by kernel_rfl))
                      replace hl18 : Gk.look F_ 18 = some (.bool x43) := hl18
                      refine LW.gtr (letm_eq hx_x68) (ws 18 rfl (bk hl18 hb45)) rfl hl20 rfl ?_; intro x_ hx_; cases hx_
                      refine LW.nil ?_; intro a_ ha_
                      exact ⟨rfl, _, _, ha_, ⟨rfl, trivial⟩, Ke.refl, cx, s3, b36, s25, s28, trivial⟩
                    · intro o_ L_ F_ lab_ w_ ho_ hL_ hw_ hcl_ hb_ hr_ hq_; obtain rfl := Option.some.inj (ho_ : some _ = some o_); obtain ⟨cx, s3, b36, s25, s28, _⟩ := hq_
                      obtain ⟨q69, hl18, rfl, _⟩ := hr_ 3 (by decide) (hw_ 3 (by kernel_rfl))
                      replace hl18 : Gk.look F_ 18 = some (.bool x43) := hl18
                      obtain ⟨q70, hl21, rfl, _⟩ := hr_ 6 (by decide) (hw_ 6 (by kernel_rfl))
                      replace hl21 : Gk.look F_ 21 = some (.bool x68) := hl21
                      refine LW.pick_f wn rfl (bk hl18 hb45) hl21 ?_
                      refine LW.nil ?_; intro a_ ha_
                      exact ⟨rfl, _, _, ha_, ⟨rfl, trivial⟩, Ke.refl, cx, s3, b36, s25, s28, trivial⟩
                    · intro o_ L_ F_ lab_ w_ ho_ hL_ hw_ hcl_ hb_ hr_ hq_; obtain rfl := Option.some.inj (ho_ : some _ = some o_); obtain ⟨cx, s3, b36, s25, s28, _⟩ := hq_
                      obtain ⟨q71, hl22, rfl, _⟩ := hr_ 7 (by decide) (hw_ 7 (by kernel_rfl))
                      replace hl22 : Gk.look F_ 22 = some (.bool x68) := hl22
                      refine LW.move wn rfl hl22 ?_
                      refine LW.nil ?_; intro a_ ha_
                      exact ⟨rfl, _, _, ha_, ⟨rfl, trivial⟩, Ke.refl, cx, s3, b36, s25, s28, trivial⟩
                    · intro o_ L_ F_ lab_ w_ ho_ hL_ hw_ hcl_ hb_ hr_ hq_; obtain rfl := Option.some.inj (ho_ : some _ = some o_); obtain ⟨cx, s3, b36, s25, s28, _⟩ := hq_
                      have hl4 := hb_ 4 _ rfl
                      obtain ⟨q87, hl23, rfl, _⟩ := hr_ 8 (by decide) (hw_ 8 (by kernel_rfl))
                      replace hl23 : Gk.look F_ 23 = some (.bool x68) := hl23
                      refine LW.fldB 1 kFld_63_1 rfl (ws 23 rfl (bk hl23 hb72)) rfl hl4 ?_
                      refine LW.nil ?_; intro a_ ha_
                      exact ⟨rfl, _, _, ha_, ⟨rfl, trivial⟩, Ke.refl, cx, s3, b36, s25, s28, trivial⟩
                    · intro o_ L_ F_ lab_ w_ ho_ hL_ hw_ hcl_ hb_ hr_ hq_; obtain rfl := Option.some.inj (ho_ : some _ = some o_); obtain ⟨cx, s3, b36, s25, s28, _⟩ := hq_
                      obtain ⟨q88, hl24, rfl, _⟩ := hr_ 9 (by decide) (hw_ 9 (by kernel_rfl))
                      replace hl24 : Gk.look F_ 24 = some (.pointer (some ⟨g29, 1, none⟩)) := hl24
                      obtain ⟨q89, hl23, rfl, _⟩ := hr_ 8 (by decide) (hw_ 8 (by kernel_rfl))
                      replace hl23 : Gk.look F_ 23 = some (.bool x68) := hl23
                      refine LW.loadB1 b36 kOne_24 rfl (ws 23 rfl (bk hl23 hb72)) rfl hl24 ?_
                      refine LW.nil ?_; intro a_ ha_
                      exact ⟨rfl, _, _, ha_, ⟨rfl, trivial⟩, Ke.refl, cx, s3, b36, s25, s28, trivial⟩
                    · intro o_ L_ F_ lab_ w_ ho_ hL_ hw_ hcl_ hb_ hr_ hq_; obtain rfl := Option.some.inj (ho_ : some _ = some o_); obtain ⟨cx, s3, b36, s25, s28, _⟩ := hq_
                      obtain ⟨q90, hl25, rfl, _⟩ := hr_ 10 (by decide) (hw_ 10 (by kernel_rfl))
                      replace hl25 : Gk.look F_ 25 = some (.slice oa23 x18.Key.length c24) := hl25
                      obtain ⟨q91, hl23, rfl, _⟩ := hr_ 8 (by decide) (hw_ 8 (by kernel_rfl))
                      replace hl23 : Gk.look F_ 23 = some (.bool x68) := hl23
                      refine LW.len kUnd_24 (ws 23 rfl (bk hl23 hb72)) rfl hl25 ?_
                      refine LW.nil ?_; intro a_ ha_
                      exact ⟨rfl, _, _, ha_, ⟨rfl, trivial⟩, Ke.refl, cx, s3, b36, s25, s28, trivial⟩
                    · intro o_ L_ F_ lab_ w_ ho_ hL_ hw_ hcl_ hb_ hr_ hq_; obtain rfl := Option.some.inj (ho_ : some _ = some o_); obtain ⟨cx, s3, b36, s25, s28, _⟩ := hq_
                      obtain ⟨q92, hl26, rfl, _⟩ := hr_ 11 (by decide) (hw_ 11 (by kernel_rfl))
                      replace hl26 : Gk.look F_ 26 = some (.int .i64 (x18.Key.length : Int)) := hl26
                      obtain ⟨q93, hl23, rfl, _⟩ := hr_ 8 (by decide) (hw_ 8 (by kernel_rfl))
                      replace hl23 : Gk.look F_ 23 = some (.bool x68) := hl23
                      refine LW.gtr (letm_eq hx_x94) (ws 23 rfl (bk hl23 hb72)) rfl hl26 rfl ?_; intro x_ hx_; cases hx_
                      refine LW.nil ?_; intro a_ ha_
                      exact ⟨rfl, _, _, ha_, ⟨rfl, trivial⟩, Ke.refl, cx, s3, b36, s25, s28, trivial⟩
                    · intro o_ L_ F_ lab_ w_ ho_ hL_ hw_ hcl_ hb_ hr_ hq_; obtain rfl := Option.some.inj (ho_ : some _ = some o_); obtain ⟨cx, s3, b36, s25, s28, _⟩ := hq_
                      obtain ⟨q95, hl23, rfl, _⟩ := hr_ 8 (by decide) (hw_ 8 (by kernel_rfl))
                      replace hl23 : Gk.look F_ 23 = some (.bool x68) := hl23
                      obtain ⟨q96, hl27, rfl, _⟩ := hr_ 12 (by decide) (hw_ 12 (by kernel_rfl))
                      replace hl27 : Gk.look F_ 27 = some (.bool x94) := hl27
                      refine LW.pick_f wn rfl (bk hl23 hb72) hl27 ?_
                      refine LW.nil ?_; intro a_ ha_
                      exact ⟨rfl, _, _, ha_, ⟨rfl, trivial⟩, Ke.refl, cx, s3, b36, s25, s28, trivial⟩
                    · intro o_ L_ F_ lab_ w_ ho_ hL_ hw_ hcl_ hb_ hr_ hq_; obtain rfl := Option.some.inj (ho_ : some _ = some o_); obtain ⟨cx, s3, b36, s25, s28, _⟩ := hq_
                      obtain ⟨q97, hl28, rfl, _⟩ := hr_ 13 (by decide) (hw_ 13 (by kernel_rfl))
                      replace hl28 : Gk.look F_ 28 = some (.bool x94) := hl28
                      refine LW.move wn rfl hl28 ?_
                      refine LW.nil ?_; intro a_ ha_
                      exact ⟨rfl, _, _, ha_, ⟨rfl, trivial⟩, Ke.refl, cx, s3, b36, s25, s28, trivial⟩
                    · intro o_ L_ F_ lab_ w_ ho_ hL_ hw_ hcl_ hb_ hr_ hq_; obtain rfl := Option.some.inj (ho_ : some _ = some o_); obtain ⟨cx, s3, b36, s25, s28, _⟩ := hq_
                      have hl4 := hb_ 4 _ rfl
                      obtain ⟨q110, hl29, rfl, _⟩ := hr_ 14 (by decide) (hw_ 14 (by kernel_rfl))
                      replace hl29 : Gk.look F_ 29 = some (.bool x94) := hl29
                      refine LW.fldB 2 kFld_63_2 rfl (ws 29 rfl (bk hl29 hb98)) rfl hl4 ?_
                      refine LW.nil ?_; intro a_ ha_
                      exact ⟨rfl, _, _, ha_, ⟨rfl, trivial⟩, Ke.refl, cx, s3, b36, s25, s28, trivial⟩
                    · intro o_ L_ F_ lab_ w_ ho_ hL_ hw_ hcl_ hb_ hr_ hq_; obtain rfl := Option.some.inj (ho_ : some _ = some o_); obtain ⟨cx, s3, b36, s25, s28, _⟩ := hq_
                      obtain ⟨q111, hl30, rfl, _⟩ := hr_ 15 (by decide) (hw_ 15 (by kernel_rfl))
                      replace hl30 : Gk.look F_ 30 = some (.pointer (some ⟨g29, 2, none⟩)) := hl30
                      obtain ⟨q112, hl29, rfl, _⟩ := hr_ 14 (by decide) (hw_ 14 (by kernel_rfl))
                      replace hl29 : Gk.look F_ 29 = some (.bool x94) := hl29
                      refine LW.loadB1 b36 kOne_24 rfl (ws 29 rfl (bk hl29 hb98)) rfl hl30 ?_
                      refine LW.nil ?_; intro a_ ha_
                      exact ⟨rfl, _, _, ha_, ⟨rfl, trivial⟩, Ke.refl, cx, s3, b36, s25, s28, trivial⟩
                    · intro o_ L_ F_ lab_ w_ ho_ hL_ hw_ hcl_ hb_ hr_ hq_; obtain rfl := Option.some.inj (ho_ : some _ = some o_); obtain ⟨cx, s3, b36, s25, s28, _⟩ := hq_
                      obtain ⟨q113, hl31, rfl, _⟩ := hr_ 16 (by decide) (hw_ 16 (by kernel_rfl))
                      replace hl31 : Gk.look F_ 31 = some (.slice oa26 x18.Data.length c27) := hl31
                      obtain ⟨q114, hl29, rfl, _⟩ := hr_ 14 (by decide) (hw_ 14 (by kernel_rfl))
                      replace hl29 : Gk.look F_ 29 = some (.bool x94) := hl29
                      refine LW.len kUnd_24 (ws 29 rfl (bk hl29 hb98)) rfl hl31 ?_
                      refine LW.nil ?_; intro a_ ha_
                      exact ⟨rfl, _, _, ha_, ⟨rfl, trivial⟩, Ke.refl, cx, s3, b36, s25, s28, trivial⟩
                    · intro o_ L_ F_ lab_ w_ ho_ hL_ hw_ hcl_ hb_ hr_ hq_; obtain rfl := Option.some.inj (ho_ : some _ = some o_); obtain ⟨cx, s3, b36, s25, s28, _⟩ := hq_
                      obtain ⟨q115, hl32, rfl, _⟩ := hr_ 17 (by decide) (hw_ 17 (by kernel_rfl))
                      replace hl32 : Gk.look F_ 32 = some (.int .i64 (x18.Data.length : Int)) := hl32
                      obtain ⟨q116, hl29, rfl, _⟩ := hr_ 14 (by decide) (hw_ 14 (by kernel_rfl))
                      replace hl29 : Gk.look F_ 29 = some (.bool x94) := hl29
                      refine LW.gtr (letm_eq hx_x117) (ws 29 rfl (bk hl29 hb98)) rfl hl32 rfl ?_; intro x_ hx_; cases hx_
                      refine LW.nil ?_; intro a_ ha_
                      exact ⟨rfl, _, _, ha_, ⟨rfl, trivial⟩, Ke.refl, cx, s3, b36, s25, s28, trivial⟩
                    · intro o_ L_ F_ lab_ w_ ho_ hL_ hw_ hcl_ hb_ hr_ hq_; obtain rfl := Option.some.inj (ho_ : some _ = some o_); obtain ⟨cx, s3, b36, s25, s28, _⟩ := hq_
                      obtain ⟨q118, hl29, rfl, _⟩ := hr_ 14 (by decide) (hw_ 14 (by kernel_rfl))
                      replace hl29 : Gk.look F_ 29 = some (.bool x94) := hl29
                      obtain ⟨q119, hl33, rfl, _⟩ := hr_ 18 (by decide) (hw_ 18 (by kernel_rfl))
                      replace hl33 : Gk.look F_ 33 = some (.bool x117) := hl33
                      refine LW.pick_f wn rfl (bk hl29 hb98) hl33 ?_
                      refine LW.nil ?_; intro a_ ha_
                      exact ⟨rfl, _, _, ha_, ⟨rfl, trivial⟩, Ke.refl, cx, s3, b36, s25, s28, trivial⟩
                    · intro o_ L_ F_ lab_ w_ ho_ hL_ hw_ hcl_ hb_ hr_ hq_; obtain rfl := Option.some.inj (ho_ : some _ = some o_); obtain ⟨cx, s3, b36, s25, s28, _⟩ := hq_
                      obtain ⟨q120, hl34, rfl, _⟩ := hr_ 19 (by decide) (hw_ 19 (by kernel_rfl))
                      replace hl34 : Gk.look F_ 34 = some (.bool x117) := hl34
                      refine LW.move wn rfl hl34 ?_
                      refine LW.nil ?_; intro a_ ha_
                      exact ⟨rfl, _, _, ha_, ⟨rfl, trivial⟩, Ke.refl, cx, s3, b36, s25, s28, trivial⟩
                    · exact ob_skip (b' := true) 20 rfl (by kernel_rfl) (by decide) ⟨_, rfl⟩ (fun _ _ _ _ h_ => .inl (h_.1.trans (congrArg Value.bool hb121))) rfl rfl (fun _ _ _ => ⟨rfl, trivial⟩) (fun _ _ _ h_ => h_)
                    · exact ob_skip (b' := true) 20 rfl (by kernel_rfl) (by decide) ⟨_, rfl⟩ (fun _ _ _ _ h_ => .inl (h_.1.trans (congrArg Value.bool hb121))) rfl rfl (fun _ _ _ => ⟨rfl, trivial⟩) (fun _ _ _ h_ => h_)
                    · exact ob_skip (b' := true) 20 rfl (by kernel_rfl) (by decide) ⟨_, rfl⟩ (fun _ _ _ _ h_ => .inl (h_.1.trans (congrArg Value.bool hb121))) rfl rfl (fun _ _ _ => ⟨rfl, trivial⟩) (fun _ _ _ h_ => h_)
                    · intro o_ L_ F_ lab_ w_ ho_ hL_ hw_ hcl_ hb_ hr_ hq_; obtain rfl := Option.some.inj (ho_ : some _ = some o_); obtain ⟨cx, s3, b36, s25, s28, _⟩ := hq_
                      obtain ⟨q122, hl35, rfl, _⟩ := hr_ 20 (by decide) (hw_ 20 (by kernel_rfl))
                      replace hl35 : Gk.look F_ 35 = some (.bool x117) := hl35
                      obtain ⟨q123, hl38, rfl, _⟩ := hr_ 23 (by decide) (hw_ 23 (by kernel_rfl))
                      replace hl38 : Gk.look F_ 38 = some (undef) := hl38
                      refine LW.pick_t wn rfl (bk hl35 hb121) rfl ?_
                      refine LW.nil ?_; intro a_ ha_
                      exact ⟨rfl, _, _, ha_, ⟨rfl, trivial⟩, Ke.refl, cx, s3, b36, s25, s28, trivial⟩
                    · intro o_ L_ F_ lab_ w_ ho_ hL_ hw_ hcl_ hb_ hr_ hq_; obtain rfl := Option.some.inj (ho_ : some _ = some o_); obtain ⟨cx, s3, b36, s25, s28, _⟩ := hq_
                      obtain ⟨q124, hl39, rfl, _⟩ := hr_ 24 (by decide) (hw_ 24 (by kernel_rfl))
                      replace hl39 : Gk.look F_ 39 = some (.bool true) := hl39
                      refine LW.move wn rfl hl39 ?_
                      refine LW.nil ?_; intro a_ ha_
                      exact ⟨rfl, _, _, ha_, ⟨rfl, trivial⟩, Ke.refl, cx, s3, b36, s25, s28, trivial⟩
                    · exact ob_skip (b' := true) 25 rfl (by kernel_rfl) (by decide) ⟨_, rfl⟩ (fun _ _ _ _ h_ => .inl h_.1) rfl rfl (fun _ _ _ => ⟨rfl, trivial⟩) (fun _ _ _ h_ => h_)
                    · exact ob_skip (b' := true) 25 rfl (by kernel_rfl) (by decide) ⟨_, rfl⟩ (fun _ _ _ _ h_ => .inl h_.1) rfl rfl (fun _ _ _ => ⟨rfl, trivial⟩) (fun _ _ _ h_ => h_)
                    · exact ob_skip (b' := true) 25 rfl (by kernel_rfl) (by decide) ⟨_, rfl⟩ (fun _ _ _ _ h_ => .inl h_.1) rfl rfl (fun _ _ _ => ⟨rfl, trivial⟩) (fun _ _ _ h_ => h_)
                    · exact ob_skip (b' := true) 25 rfl (by kernel_rfl) (by decide) ⟨_, rfl⟩ (fun _ _ _ _ h_ => .inl h_.1) rfl rfl (fun _ _ _ => ⟨rfl, trivial⟩) (fun _ _ _ h_ => h_)
                    · exact ob_skip (b' := true) 25 rfl (by kernel_rfl) (by decide) ⟨_, rfl⟩ (fun _ _ _ _ h_ => .inl h_.1) rfl rfl (fun _ _ _ => ⟨rfl, trivial⟩) (fun _ _ _ h_ => h_)
                    · exact ob_skip (b' := true) 25 rfl (by kernel_rfl) (by decide) ⟨_, rfl⟩ (fun _ _ _ _ h_ => .inl h_.1) rfl rfl (fun _ _ _ => ⟨rfl, trivial⟩) (fun _ _ _ h_ => h_)
                    · exact ob_skip (b' := true) 25 rfl (by kernel_rfl) (by decide) ⟨_, rfl⟩ (fun _ _ _ _ h_ => .inl h_.1) rfl rfl (fun _ _ _ => ⟨rfl, trivial⟩) (fun _ _ _ h_ => h_)
                    · exact ob_skip (b' := true) 25 rfl (by kernel_rfl) (by decide) ⟨_, rfl⟩ (fun _ _ _ _ h_ => .inl h_.1) rfl rfl (fun _ _ _ => ⟨rfl, trivial⟩) (fun _ _ _ h_ => h_)
                    · exact ob_skip (b' := true) 25 rfl (by kernel_rfl) (by decide) ⟨_, rfl⟩ (fun _ _ _ _ h_ => .inl h_.1) rfl rfl (fun _ _ _ => ⟨rfl, trivial⟩) (fun _ _ _ h_ => h_)
                    · intro o_ L_ F_ lab_ w_ ho_ hL_ hw_ hcl_ hb_ hr_ hq_; obtain rfl := Option.some.inj (ho_ : some _ = some o_); obtain ⟨cx, s3, b36, s25, s28, _⟩ := hq_
                      obtain ⟨q125, hl40, rfl, _⟩ := hr_ 25 (by decide) (hw_ 25 (by kernel_rfl))
                      replace hl40 : Gk.look F_ 40 = some (.bool true) := hl40
                      obtain ⟨q126, hl49, rfl, _⟩ := hr_ 34 (by decide) (hw_ 34 (by kernel_rfl))
                      replace hl49 : Gk.look F_ 49 = some (undef) := hl49
                      refine LW.pick_t wn rfl hl40 rfl ?_
                      refine LW.nil ?_; intro a_ ha_
                      exact ⟨rfl, _, _, ha_, ⟨rfl, trivial⟩, Ke.refl, cx, s3, b36, s25, s28, trivial⟩
                  · intro F_ lab_ w_ hb_ hr_ hq_; obtain ⟨cx, s3, b36, s25, s28, _⟩ := hq_
                    obtain ⟨q129, hl50, rfl, _⟩ := hr_ 35 (by decide)
                    refine LW.sub (G := [(0, .slice oa1 a0.length c2), (3, .int .i64 ((k16 : Nat) : Int)), (4, .pointer (some ⟨g29, 0, none⟩)), (8, .slice oa1 a0.length c2), (9, .int .i64 (a0.length : Int)), (10, .int .i64 ((k16 : Nat) : Int)), (50, .bool true)]) ⟨hb_ 0 _ rfl, hb_ 3 _ rfl, hb_ 4 _ rfl, hb_ 8 _ rfl, hb_ 9 _ rfl, hb_ 10 _ rfl, hl50, trivial⟩ ?_
                    simp only [List.drop_succ_cons, List.drop_nil, List.drop_zero]
                    refine LW.nil ?_
                    obtain rfl := Option.some.inj hm
                    refine EW.sub (G := [(0, .slice oa1 a0.length c2), (8, .slice oa1 a0.length c2), (9, .int .i64 (a0.length : Int)), (10, .int .i64 ((k16 : Nat) : Int)), (50, .bool true)]) ⟨rfl, rfl, rfl, rfl, rfl, trivial⟩ ?_
                    exact EW.join_n ⟨_, rfl, cx, s3, trivial⟩
                · replace hm := cond_f hm hb121
                  obtain ⟨x135, hx_x135, hm_⟩ := letm_some hm; clear hm; have hm := hm_; clear hm_
                  rcases Bool.eq_false_or_eq_true x135 with hb139 | hb139
                  · replace hm := cond_t hm hb139
                    refine CW.sub (G := [(0, .slice oa1 a0.length c2), (3, .int .i64 ((k16 : Nat) : Int)), (4, .pointer (some ⟨g29, 0, none⟩)), (8, .slice oa1 a0.length c2), (9, .int .i64 (a0.length : Int)), (10, .int .i64 ((k16 : Nat) : Int))]) ⟨rfl, rfl, rfl, rfl, rfl, rfl, trivial⟩ ?_
                    refine CW.drawL (fun i_ => []) (fun i_ => by (try dsimp only); (repeat' split) <;> rfl) kMix_ 36 (by kernel_rfl) cx.top ?_
                    intro w142 e143
                    replace cx := cx.step e143 rfl
                    replace s3 := s3.step e143
                    replace b36 := b36.step e143 rfl
                    replace s25 := s25.step e143
                    replace s28 := s28.step e143
                    clear e143
                    refine ⟨[(fun L_ lab_ w_ v_ => v_ = .pointer (some ⟨g29, 0, none⟩) ∧ True),
    (fun L_ lab_ w_ v_ => v_ = .int .i64 x18.Peer ∧ True),
    (fun L_ lab_ w_ v_ => v_ = .bool x43 ∧ True),
    (fun L_ lab_ w_ v_ => v_ = .bool x43 ∧ True),
    (fun L_ lab_ w_ v_ => v_ = .pointer (some ⟨g29, 0, none⟩) ∧ True),
    (fun L_ lab_ w_ v_ => v_ = .int .i64 x18.Peer ∧ True),
    (fun L_ lab_ w_ v_ => v_ = .bool x68 ∧ True),
    (fun L_ lab_ w_ v_ => v_ = .bool x68 ∧ True),
    (fun L_ lab_ w_ v_ => v_ = .bool x68 ∧ True),
    (fun L_ lab_ w_ v_ => v_ = .pointer (some ⟨g29, 1, none⟩) ∧ True),
    (fun L_ lab_ w_ v_ => v_ = .slice oa23 x18.Key.length c24 ∧ True),
    (fun L_ lab_ w_ v_ => v_ = .int .i64 (x18.Key.length : Int) ∧ True),
    (fun L_ lab_ w_ v_ => v_ = .bool x94 ∧ True),
    (fun L_ lab_ w_ v_ => v_ = .bool x94 ∧ True),
    (fun L_ lab_ w_ v_ => v_ = .bool x94 ∧ True),
    (fun L_ lab_ w_ v_ => v_ = .pointer (some ⟨g29, 2, none⟩) ∧ True),
    (fun L_ lab_ w_ v_ => v_ = .slice oa26 x18.Data.length c27 ∧ True),
    (fun L_ lab_ w_ v_ => v_ = .int .i64 (x18.Data.length : Int) ∧ True),
    (fun L_ lab_ w_ v_ => v_ = .bool x117 ∧ True),
    (fun L_ lab_ w_ v_ => v_ = .bool x117 ∧ True),
    (fun L_ lab_ w_ v_ => v_ = .bool x117 ∧ True),
    (fun L_ lab_ w_ v_ => v_ = .pointer (some ⟨g29, 3, none⟩) ∧ True),
    (fun L_ lab_ w_ v_ => v_ = .int .i64 x18.Until ∧ True),
    (fun L_ lab_ w_ v_ => v_ = .bool x135 ∧ True),
    (fun L_ lab_ w_ v_ => v_ = .bool x135 ∧ True),
    (fun L_ lab_ w_ v_ => v_ = .bool x135 ∧ True),
    (fun L_ lab_ w_ v_ => v_ = undef ∧ True),
    (fun L_ lab_ w_ v_ => v_ = undef ∧ True),
    (fun L_ lab_ w_ v_ => v_ = undef ∧ True),
    (fun L_ lab_ w_ v_ => v_ = undef ∧ True),
    (fun L_ lab_ w_ v_ => v_ = undef ∧ True),
    (fun L_ lab_ w_ v_ => v_ = undef ∧ True),
    (fun L_ lab_ w_ v_ => v_ = undef ∧ True),
    (fun L_ lab_ w_ v_ => v_ = undef ∧ True),
    (fun L_ lab_ w_ v_ => v_ = undef ∧ True),
    (fun L_ lab_ w_ v_ => v_ = .bool true ∧ True)], (fun L_ lab_ w_ => Cx [] w lab w_ lab_ ∧ SL R_api_Partial lab_ w_ oa1 c2 a0 ∧ Box lab_ w_ 14 g29 63 [.int .i64 x18.Peer, .slice oa23 x18.Key.length c24, .slice oa26 x18.Data.length c27, .int .i64 x18.Until] ∧ SL Rep.u8 lab_ w_ oa23 c24 x18.Key ∧ SL Rep.u8 lab_ w_ oa26 c27 x18.Data ∧ True), ?_, ⟨cx, s3, b36, s25, s28, trivial⟩, ?_, ?_⟩
                    · exact ⟨by rintro i_ L_ lab_ w_ lab2_ w2_ v_ hne_ hd_ hk_ hp_ ⟨hv_, _⟩; exact ⟨hv_, trivial⟩, by rintro i_ L_ lab_ w_ lab2_ w2_ v_ hne_ hd_ hk_ hp_ ⟨hv_, _⟩; exact ⟨hv_, trivial⟩, by rintro i_ L_ lab_ w_ lab2_ w2_ v_ hne_ hd_ hk_ hp_ ⟨hv_, _⟩; exact ⟨hv_, trivial⟩, by rintro i_ L_ lab_ w_ lab2_ w2_ v_ hne_ hd_ hk_ hp_ ⟨hv_, _⟩; exact ⟨hv_, trivial⟩, by rintro i_ L_ lab_ w_ lab2_ w2_ v_ hne_ hd_ hk_ hp_ ⟨hv_, _⟩; exact ⟨hv_, trivial⟩, by rintro i_ L_ lab_ w_ lab2_ w2_ v_ hne_ hd_ hk_ hp_ ⟨hv_, _⟩; exact ⟨hv_, trivial⟩, by rintro i_ L_ lab_ w_ lab2_ w2_ v_ hne_ hd_ hk_ hp_ ⟨hv_, _⟩; exact ⟨hv_, trivial⟩, by rintro i_ L_ lab_ w_ lab2_ w2_ v_ hne_ hd_ hk_ hp_ ⟨hv_, _⟩; exact ⟨hv_, trivial⟩, by rintro i_ L_ lab_ w_ lab2_ w2_ v_ hne_ hd_ hk_ hp_ ⟨hv_, _⟩; exact ⟨hv_, trivial⟩, by rintro i_ L_ lab_ w_ lab2_ w2_ v_ hne_ hd_ hk_ hp_ ⟨hv_, _⟩; exact ⟨hv_, trivial⟩, by rintro i_ L_ lab_ w_ lab2_ w2_ v_ hne_ hd_ hk_ hp_ ⟨hv_, _⟩; exact ⟨hv_, trivial⟩, by rintro i_ L_ lab_ w_ lab2_ w2_ v_ hne_ hd_ hk_ hp_ ⟨hv_, _⟩; exact ⟨hv_, trivial⟩, by rintro i_ L_ lab_ w_ lab2_ w2_ v_ hne_ hd_ hk_ hp_ ⟨hv_, _⟩; exact ⟨hv_, trivial⟩, by rintro i_ L_ lab_ w_ lab2_ w2_ v_ hne_ hd_ hk_ hp_ ⟨hv_, _⟩; exact ⟨hv_, trivial⟩, by rintro i_ L_ lab_ w_ lab2_ w2_ v_ hne_ hd_ hk_ hp_ ⟨hv_, _⟩; exact ⟨hv_, trivial⟩, by rintro i_ L_ lab_ w_ lab2_ w2_ v_ hne_ hd_ hk_ hp_ ⟨hv_, _⟩; exact ⟨hv_, trivial⟩, by rintro i_ L_ lab_ w_ lab2_ w2_ v_ hne_ hd_ hk_ hp_ ⟨hv_, _⟩; exact ⟨hv_, trivial⟩, by rintro i_ L_ lab_ w_ lab2_ w2_ v_ hne_ hd_ hk_ hp_ ⟨hv_, _⟩; exact ⟨hv_, trivial⟩, by rintro i_ L_ lab_ w_ lab2_ w2_ v_ hne_ hd_ hk_ hp_ ⟨hv_, _⟩; exact ⟨hv_, trivial⟩, by rintro i_ L_ lab_ w_ lab2_ w2_ v_ hne_ hd_ hk_ hp_ ⟨hv_, _⟩; exact ⟨hv_, trivial⟩, by rintro i_ L_ lab_ w_ lab2_ w2_ v_ hne_ hd_ hk_ hp_ ⟨hv_, _⟩; exact ⟨hv_, trivial⟩, by rintro i_ L_ lab_ w_ lab2_ w2_ v_ hne_ hd_ hk_ hp_ ⟨hv_, _⟩; exact ⟨hv_, trivial⟩, by rintro i_ L_ lab_ w_ lab2_ w2_ v_ hne_ hd_ hk_ hp_ ⟨hv_, _⟩; exact ⟨hv_, trivial⟩, by rintro i_ L_ lab_ w_ lab2_ w2_ v_ hne_ hd_ hk_ hp_ ⟨hv_, _⟩; exact ⟨hv_, trivial⟩, by rintro i_ L_ lab_ w_ lab2_ w2_ v_ hne_ hd_ hk_ hp_ ⟨hv_, _⟩; exact ⟨hv_, trivial⟩, by rintro i_ L_ lab_ w_ lab2_ w2_ v_ hne_ hd_ hk_ hp_ ⟨hv_, _⟩; exact ⟨hv_, trivial⟩, by rintro i_ L_ lab_ w_ lab2_ w2_ v_ hne_ hd_ hk_ hp_ ⟨hv_, _⟩; exact ⟨hv_, trivial⟩, by rintro i_ L_ lab_ w_ lab2_ w2_ v_ hne_ hd_ hk_ hp_ ⟨hv_, _⟩; exact ⟨hv_, trivial⟩, by rintro i_ L_ lab_ w_ lab2_ w2_ v_ hne_ hd_ hk_ hp_ ⟨hv_, _⟩; exact ⟨hv_, trivial⟩, by rintro i_ L_ lab_ w_ lab2_ w2_ v_ hne_ hd_ hk_ hp_ ⟨hv_, _⟩; exact ⟨hv_, trivial⟩, by rintro i_ L_ lab_ w_ lab2_ w2_ v_ hne_ hd_ hk_ hp_ ⟨hv_, _⟩; exact ⟨hv_, trivial⟩, by rintro i_ L_ lab_ w_ lab2_ w2_ v_ hne_ hd_ hk_ hp_ ⟨hv_, _⟩; exact ⟨hv_, trivial⟩, by rintro i_ L_ lab_ w_ lab2_ w2_ v_ hne_ hd_ hk_ hp_ ⟨hv_, _⟩; exact ⟨hv_, trivial⟩, by rintro i_ L_ lab_ w_ lab2_ w2_ v_ hne_ hd_ hk_ hp_ ⟨hv_, _⟩; exact ⟨hv_, trivial⟩, by rintro i_ L_ lab_ w_ lab2_ w2_ v_ hne_ hd_ hk_ hp_ ⟨hv_, _⟩; exact ⟨hv_, trivial⟩, by rintro i_ L_ lab_ w_ lab2_ w2_ v_ hne_ hd_ hk_ hp_ ⟨hv_, _⟩; exact ⟨hv_, trivial⟩, trivial⟩
                    · refine (ob_succ (ob_succ (ob_succ (ob_succ (ob_succ (ob_succ (ob_succ (ob_succ (ob_succ (ob_succ (ob_succ (ob_succ (ob_succ (ob_succ (ob_succ (ob_succ (ob_succ (ob_succ (ob_succ (ob_succ (ob_succ (ob_succ (ob_succ (ob_succ (ob_succ (ob_succ (ob_succ (ob_succ (ob_succ (ob_succ (ob_succ (ob_succ (ob_succ (ob_succ (ob_succ (ob_succ ob_nil ?_) ?_) ?_) ?_) ?_) ?_) ?_) ?_) ?_) ?_) ?_) ?_) ?_) ?_) ?_) ?_) ?_) ?_) ?_) ?_) ?_) ?_) ?_) ?_) ?_) ?_) ?_) ?_) ?_) ?_) ?_) ?_) ?_) ?_) ?_) ?_)
                      · intro o_ L_ F_ lab_ w_ ho_ hL_ hw_ hcl_ hb_ hr_ hq_; obtain rfl := Option.some.inj (ho_ : some _ = some o_); obtain ⟨cx, s3, b36, s25, s28, _⟩ := hq_
                        have hl4 := hb_ 4 _ rfl
                        refine LW.fldB 0 kFld_63_0 rfl wn rfl hl4 ?_
                        refine LW.nil ?_; intro a_ ha_
                        exact ⟨rfl, _, _, ha_, ⟨rfl, trivial⟩, Ke.refl, cx, s3, b36, s25, s28, trivial⟩
                      · intro o_ L_ F_ lab_ w_ ho_ hL_ hw_ hcl_ hb_ hr_ hq_; obtain rfl := Option.some.inj (ho_ : some _ = some o_); obtain ⟨cx, s3, b36, s25, s28, _⟩ := hq_
                        obtain ⟨q41, hl15, rfl, _⟩ := hr_ 0 (by decide) (hw_ 0 (by kernel_rfl))
                        replace hl15 : Gk.look F_ 15 = some (.pointer (some ⟨g29, 0, none⟩)) := hl15
                        refine LW.loadB1 b36 kOne_3 rfl wn rfl hl15 ?_
                        refine LW.nil ?_; intro a_ ha_
                        exact ⟨rfl, _, _, ha_, ⟨rfl, trivial⟩, Ke.refl, cx, s3, b36, s25, s28, trivial⟩
                      · intro o_ L_ F_ lab_ w_ ho_ hL_ hw_ hcl_ hb_ hr_ hq_; obtain rfl := Option.some.inj (ho_ : some _ = some o_); obtain ⟨cx, s3, b36, s25, s28, _⟩ := hq_
                        obtain ⟨q42, hl16, rfl, _⟩ := hr_ 1 (by decide) (hw_ 1 (by kernel_rfl))
                        replace hl16 : Gk.look F_ 16 = some (.int .i64 x18.Peer) := hl16
                        refine LW.lss (letm_eq hx_x43) wn rfl hl16 rfl ?_; intro x_ hx_; cases hx_
                        refine LW.nil ?_; intro a_ ha_
                        exact ⟨rfl, _, _, ha_, ⟨rfl, trivial⟩, Ke.refl, cx, s3, b36, s25, s28, trivial⟩
                      · intro o_ L_ F_ lab_ w_ ho_ hL_ hw_ hcl_ hb_ hr_ hq_; obtain rfl := Option.some.inj (ho_ : some _ = some o_); obtain ⟨cx, s3, b36, s25, s28, _⟩ := hq_
                        obtain ⟨q44, hl17, rfl, _⟩ := hr_ 2 (by decide) (hw_ 2 (by kernel_rfl))
                        replace hl17 : Gk.look F_ 17 = some (.bool x43) := hl17
                        refine LW.move wn rfl hl17 ?_
                        refine LW.nil ?_; intro a_ ha_
                        exact ⟨rfl, _, _, ha_, ⟨rfl, trivial⟩, Ke.refl, cx, s3, b36, s25, s28, trivial⟩
                      · intro o_ L_ F_ lab_ w_ ho_ hL_ hw_ hcl_ hb_ hr_ hq_; obtain rfl := Option.some.inj (ho_ : some _ = some o_); obtain ⟨cx, s3, b36, s25, s28, _⟩ := hq_
                        have hl4 := hb_ 4 _ rfl
                        obtain ⟨q63, hl18, rfl, _⟩ := hr_ 3 (by decide) (hw_ 3 (by kernel_rfl))
                        replace hl18 : Gk.look F_ 18 = some (.bool x43) := hl18
                        refine LW.fldB 0 kFld_63_0 rfl (ws 18 rfl (bk hl18 hb45)) rfl hl4 ?_
                        refine LW.nil ?_; intro a_ ha_
                        exact ⟨rfl, _, _, ha_, ⟨rfl, trivial⟩, Ke.refl, cx, s3, b36, s25, s28, trivial⟩
                      · intro o_ L_ F_ lab_ w_ ho_ hL_ hw_ hcl_ hb_ hr_ hq_; obtain rfl := Option.some.inj (ho_ : some _ = some o_); obtain ⟨cx, s3, b36, s25, s28, _⟩ := hq_
                        obtain ⟨q64, hl19, rfl, _⟩ := hr_ 4 (by decide) (hw_ 4 (by kernel_rfl))
                        replace hl19 : Gk.look F_ 19 = some (.pointer (some ⟨g29, 0, none⟩)) := hl19
                        obtain ⟨q65, hl18, rfl, _⟩ := hr_ 3 (by decide) (hw_ 3 (by kernel_rfl))
                        replace hl18 : Gk.look F_ 18 = some (.bool x43) := hl18
                        refine LW.loadB1 b36 kOne_3 rfl (ws 18 rfl (bk hl18 hb45)) rfl hl19 ?_
                        refine LW.nil ?_; intro a_ ha_
                        exact ⟨rfl, _, _, ha_, ⟨rfl, trivial⟩, Ke.refl, cx, s3, b36, s25, s28, trivial⟩
                      · intro o_ L_ F_ lab_ w_ ho_ hL_ hw_ hcl_ hb_ hr_ hq_; obtain rfl := Option.some.inj (ho_ : some _ = some o_); obtain ⟨cx, s3, b36, s25, s28, _⟩ := hq_
                        obtain ⟨q66, hl20, rfl, _⟩ := hr_ 5 (by decide) (hw_ 5 (by kernel_rfl))
                        replace hl20 : Gk.look F_ 20 = some (.int .i64 x18.Peer) := hl20
                        obtain ⟨q67, hl18, rfl, _⟩ := hr_ 3 (by decide) (hw_ 3 (by kernel_rfl))
                        replace hl18 : Gk.look F_ 18 = some (.bool x43) := hl18
                        refine LW.gtr (letm_eq hx_x68) (ws 18 rfl (bk hl18 hb45)) rfl hl20 rfl ?_; intro x_ hx_; cases hx_
                        refine LW.nil ?_; intro a_ ha_
                        exact ⟨rfl, _, _, ha_, ⟨rfl, trivial⟩, Ke.refl, cx, s3, b36, s25, s28, trivial⟩
                      · intro o_ L_ F_ lab_ w_ ho_ hL_ hw_ hcl_ hb_ hr_ hq_; obtain rfl := Option.some.inj (ho_ : some _ = some o_); obtain ⟨cx, s3, b36, s25, s28, _⟩ := hq_
                        obtain ⟨q69, hl18, rfl, _⟩ := hr_ 3 (by decide) (hw_ 3 (by kernel_rfl))
                        replace hl18 : Gk.look F_ 18 = some (.bool x43) := hl18
                        obtain ⟨q70, hl21, rfl, _⟩ := hr_ 6 (by decide) (hw_ 6 (by kernel_rfl))
                        replace hl21 : Gk.look F_ 21 = some (.bool x68) := hl21
                        refine LW.pick_f wn rfl (bk hl18 hb45) hl21 ?_
                        refine LW.nil ?_; intro a_ ha_
                        exact ⟨rfl, _, _, ha_, ⟨rfl, trivial⟩, Ke.refl, cx, s3, b36, s25, s28, trivial⟩
                      · intro o_ L_ F_ lab_ w_ ho_ hL_ hw_ hcl_ hb_ hr_ hq_; obtain rfl := Option.some.inj (ho_ : some _ = some o_); obtain ⟨cx, s3, b36, s25, s28, _⟩ := hq_
                        obtain ⟨q71, hl22, rfl, _⟩ := hr_ 7 (by decide) (hw_ 7 (by kernel_rfl))
                        replace hl22 : Gk.look F_ 22 = some (.bool x68) := hl22
                        refine LW.move wn rfl hl22 ?_
                        refine LW.nil ?_; intro a_ ha_
                        exact ⟨rfl, _, _, ha_, ⟨rfl, trivial⟩, Ke.refl, cx, s3, b36, s25, s28, trivial⟩
                      · intro o_ L_ F_ lab_ w_ ho_ hL_ hw_ hcl_ hb_ hr_ hq_; obtain rfl := Option.some.inj (ho_ : some _ = some o_); obtain ⟨cx, s3, b36, s25, s28, _⟩ := hq_
                        have hl4 := hb_ 4 _ rfl
                        obtain ⟨q87, hl23, rfl, _⟩ := hr_ 8 (by decide) (hw_ 8 (by kernel_rfl))
                        replace hl23 : Gk.look F_ 23 = some (.bool x68) := hl23
                        refine LW.fldB 1 kFld_63_1 rfl (ws 23 rfl (bk hl23 hb72)) rfl hl4 ?_
                        refine LW.nil ?_; intro a_ ha_
                        exact ⟨rfl, _, _, ha_, ⟨rfl, trivial⟩, Ke.refl, cx, s3, b36, s25, s28, trivial⟩
                      · intro o_ L_ F_ lab_ w_ ho_ hL_ hw_ hcl_ hb_ hr_ hq_; obtain rfl := Option.some.inj (ho_ : some _ = some o_); obtain ⟨cx, s3, b36, s25, s28, _⟩ := hq_
                        obtain ⟨q88, hl24, rfl, _⟩ := hr_ 9 (by decide) (hw_ 9 (by kernel_rfl))
                        replace hl24 : Gk.look F_ 24 = some (.pointer (some ⟨g29, 1, none⟩)) := hl24
                        obtain ⟨q89, hl23, rfl, _⟩ := hr_ 8 (by decide) (hw_ 8 (by kernel_rfl))
                        replace hl23 : Gk.look F_ 23 = some (.bool x68) := hl23
                        refine LW.loadB1 b36 kOne_24 rfl (ws 23 rfl (bk hl23 hb72)) rfl hl24 ?_
                        refine LW.nil ?_; intro a_ ha_
                        exact ⟨rfl, _, _, ha_, ⟨rfl, trivial⟩, Ke.refl, cx, s3, b36, s25, s28, trivial⟩
                      · intro o_ L_ F_ lab_ w_ ho_ hL_ hw_ hcl_ hb_ hr_ hq_; obtain rfl := Option.some.inj (ho_ : some _ = some o_); obtain ⟨cx, s3, b36, s25, s28, _⟩ := hq_
                        obtain ⟨q90, hl25, rfl, _⟩ := hr_ 10 (by decide) (hw_ 10 (by kernel_rfl))
                        replace hl25 : Gk.look F_ 25 = some (.slice oa23 x18.Key.length c24) := hl25
                        obtain ⟨q91, hl23, rfl, _⟩ := hr_ 8 (by decide) (hw_ 8 (by kernel_rfl))
                        replace hl23 : Gk.look F_ 23 = some (.bool x68) := hl23
                        refine LW.len kUnd_24 (ws 23 rfl (bk hl23 hb72)) rfl hl25 ?_
                        refine LW.nil ?_; intro a_ ha_
                        exact ⟨rfl, _, _, ha_, ⟨rfl, trivial⟩, Ke.refl, cx, s3, b36, s25, s28, trivial⟩
                      · intro o_ L_ F_ lab_ w_ ho_ hL_ hw_ hcl_ hb_ hr_ hq_; obtain rfl := Option.some.inj (ho_ : some _ = some o_); obtain ⟨cx, s3, b36, s25, s28, _⟩ := hq_
                        obtain ⟨q92, hl26, rfl, _⟩ := hr_ 11 (by decide) (hw_ 11 (by kernel_rfl))
                        replace hl26 : Gk.look F_ 26 = some (.int .i64 (x18.Key.length : Int)) := hl26
                        obtain ⟨q93, hl23, rfl, _⟩ := hr_ 8 (by decide) (hw_ 8 (by kernel_rfl))
                        replace hl23 : Gk.look F_ 23 = some (.bool x68) := hl23
                        refine LW.gtr (letm_eq hx_x94) (ws 23 rfl (bk hl23 hb72)) rfl hl26 rfl ?_; intro x_ hx_; cases hx_
                        refine LW.nil ?_; intro a_ ha_
                        exact ⟨rfl, _, _, ha_, ⟨rfl, trivial⟩, Ke.refl, cx, s3, b36, s25, s28, trivial⟩
                      · intro o_ L_ F_ lab_ w_ ho_ hL_ hw_ hcl_ hb_ hr_ hq_; obtain rfl := Option.some.inj (ho_ : some _ = some o_); obtain ⟨cx, s3, b36, s25, s28, _⟩ := hq_
                        obtain ⟨q95, hl23, rfl, _⟩ := hr_ 8 (by decide) (hw_ 8 (by kernel_rfl))
                        replace hl23 : Gk.look F_ 23 = some (.bool x68) := hl23
                        obtain ⟨q96, hl27, rfl, _⟩ := hr_ 12 (by decide) (hw_ 12 (by kernel_rfl))
                        replace hl27 : Gk.look F_ 27 = some (.bool x94) := hl27
                        refine LW.pick_f wn rfl (bk hl23 hb72) hl27 ?_
                        refine LW.nil ?_; intro a_ ha_
                        exact ⟨rfl, _, _, ha_, ⟨rfl, trivial⟩, Ke.refl, cx, s3, b36, s25, s28, trivial⟩
                      · intro o_ L_ F_ lab_ w_ ho_ hL_ hw_ hcl_ hb_ hr_ hq_; obtain rfl := Option.some.inj (ho_ : some _ = some o_); obtain ⟨cx, s3, b36, s25, s28, _⟩ := hq_
                        obtain ⟨q97, hl28, rfl, _⟩ := hr_ 13 (by decide) (hw_ 13 (by kernel_rfl))
                        replace hl28 : Gk.look F_ 28 = some (.bool x94) := hl28
                        refine LW.move wn rfl hl28 ?_
                        refine LW.nil ?_; intro a_ ha_
                        exact ⟨rfl, _, _, ha_, ⟨rfl, trivial⟩, Ke.refl, cx, s3, b36, s25, s28, trivial⟩
                      · intro o_ L_ F_ lab_ w_ ho_ hL_ hw_ hcl_ hb_ hr_ hq_; obtain rfl := Option.some.inj (ho_ : some _ = some o_); obtain ⟨cx, s3, b36, s25, s28, _⟩ := hq_
                        have hl4 := hb_ 4 _ rfl
                        obtain ⟨q110, hl29, rfl, _⟩ := hr_ 14 (by decide) (hw_ 14 (by kernel_rfl))
                        replace hl29 : Gk.look F_ 29 = some (.bool x94) := hl29
                        refine LW.fldB 2 kFld_63_2 rfl (ws 29 rfl (bk hl29 hb98)) rfl hl4 ?_
                        refine LW.nil ?_; intro a_ ha_
                        exact ⟨rfl, _, _, ha_, ⟨rfl, trivial⟩, Ke.refl, cx, s3, b36, s25, s28, trivial⟩
                      · intro o_ L_ F_ lab_ w_ ho_ hL_ hw_ hcl_ hb_ hr_ hq_; obtain rfl := Option.some.inj (ho_ : some _ = some o_); obtain ⟨cx, s3, b36, s25, s28, _⟩ := hq_
                        obtain ⟨q111, hl30, rfl, _⟩ := hr_ 15 (by decide) (hw_ 15 (by kernel_rfl))
                        replace hl30 : Gk.look F_ 30 = some (.pointer (some ⟨g29, 2, none⟩)) := hl30
                        obtain ⟨q112, hl29, rfl, _⟩ := hr_ 14 (by decide) (hw_ 14 (by kernel_rfl))
                        replace hl29 : Gk.look F_ 29 = some (.bool x94) := hl29
                        refine LW.loadB1 b36 kOne_24 rfl (ws 29 rfl (bk hl29 hb98)) rfl hl30 ?_
                        refine LW.nil ?_; intro a_ ha_
                        exact ⟨rfl, _, _, ha_, ⟨rfl, trivial⟩, Ke.refl, cx, s3, b36, s25, s28, trivial⟩
                      · intro o_ L_ F_ lab_ w_ ho_ hL_ hw_ hcl_ hb_ hr_ hq_; obtain rfl := Option.some.inj (ho_ : some _ = some o_); obtain ⟨cx, s3, b36, s25, s28, _⟩ := hq_
                        obtain ⟨q113, hl31, rfl, _⟩ := hr_ 16 (by decide) (hw_ 16 (by kernel_rfl))
                        replace hl31 : Gk.look F_ 31 = some (.slice oa26 x18.Data.length c27) := hl31
                        obtain ⟨q114, hl29, rfl, _⟩ := hr_ 14 (by decide) (hw_ 14 (by kernel_rfl))
                        replace hl29 : Gk.look F_ 29 = some (.bool x94) := hl29
                        refine LW.len kUnd_24 (ws 29 rfl (bk hl29 hb98)) rfl hl31 ?_
                        refine LW.nil ?_; intro a_ ha_
                        exact ⟨rfl, _, _, ha_, ⟨rfl, trivial⟩, Ke.refl, cx, s3, b36, s25, s28, trivial⟩
                      · intro o_ L_ F_ lab_ w_ ho_ hL_ hw_ hcl_ hb_ hr_ hq_; obtain rfl := Option.some.inj (ho_ : some _ = some o_); obtain ⟨cx, s3, b36, s25, s28, _⟩ := hq_
                        obtain ⟨q115, hl32, rfl, _⟩ := hr_ 17 (by decide) (hw_ 17 (by kernel_rfl))
                        replace hl32 : Gk.look F_ 32 = some (.int .i64 (x18.Data.length : Int)) := hl32
                        obtain ⟨q116, hl29, rfl, _⟩ := hr_ 14 (by decide) (hw_ 14 (by kernel_rfl))
                        replace hl29 : Gk.look F_ 29 = some (.bool x94) := hl29
                        refine LW.gtr (letm_eq hx_x117) (ws 29 rfl (bk hl29 hb98)) rfl hl32 rfl ?_; intro x_ hx_; cases hx_
                        refine LW.nil ?_; intro a_ ha_
                        exact ⟨rfl, _, _, ha_, ⟨rfl, trivial⟩, Ke.refl, cx, s3, b36, s25, s28, trivial⟩
                      · intro o_ L_ F_ lab_ w_ ho_ hL_ hw_ hcl_ hb_ hr_ hq_; obtain rfl := Option.some.inj (ho_ : some _ = some o_); obtain ⟨cx, s3, b36, s25, s28, _⟩ := hq_
                        obtain ⟨q118, hl29, rfl, _⟩ := hr_ 14 (by decide) (hw_ 14 (by kernel_rfl))
                        replace hl29 : Gk.look F_ 29 = some (.bool x94) := hl29
                        obtain ⟨q119, hl33, rfl, _⟩ := hr_ 18 (by decide) (hw_ 18 (by kernel_rfl))
                        replace hl33 : Gk.look F_ 33 = some (.bool x117) := hl33
                        refine LW.pick_f wn rfl (bk hl29 hb98) hl33 ?_
                        refine LW.nil ?_; intro a_ ha_
                        exact ⟨rfl, _, _, ha_, ⟨rfl, trivial⟩, Ke.refl, cx, s3, b36, s25, s28, trivial⟩
                      · intro o_ L_ F_ lab_ w_ ho_ hL_ hw_ hcl_ hb_ hr_ hq_; obtain rfl := Option.some.inj (ho_ : some _ = some o_); obtain ⟨cx, s3, b36, s25, s28, _⟩ := hq_
                        obtain ⟨q120, hl34, rfl, _⟩ := hr_ 19 (by decide) (hw_ 19 (by kernel_rfl))
                        replace hl34 : Gk.look F_ 34 = some (.bool x117) := hl34
                        refine LW.move wn rfl hl34 ?_
                        refine LW.nil ?_; intro a_ ha_
                        exact ⟨rfl, _, _, ha_, ⟨rfl, trivial⟩, Ke.refl, cx, s3, b36, s25, s28, trivial⟩
                      · intro o_ L_ F_ lab_ w_ ho_ hL_ hw_ hcl_ hb_ hr_ hq_; obtain rfl := Option.some.inj (ho_ : some _ = some o_); obtain ⟨cx, s3, b36, s25, s28, _⟩ := hq_
                        have hl4 := hb_ 4 _ rfl
                        obtain ⟨q130, hl35, rfl, _⟩ := hr_ 20 (by decide) (hw_ 20 (by kernel_rfl))
                        replace hl35 : Gk.look F_ 35 = some (.bool x117) := hl35
                        refine LW.fldB 3 kFld_63_3 rfl (ws 35 rfl (bk hl35 hb121)) rfl hl4 ?_
                        refine LW.nil ?_; intro a_ ha_
                        exact ⟨rfl, _, _, ha_, ⟨rfl, trivial⟩, Ke.refl, cx, s3, b36, s25, s28, trivial⟩
                      · intro o_ L_ F_ lab_ w_ ho_ hL_ hw_ hcl_ hb_ hr_ hq_; obtain rfl := Option.some.inj (ho_ : some _ = some o_); obtain ⟨cx, s3, b36, s25, s28, _⟩ := hq_
                        obtain ⟨q131, hl36, rfl, _⟩ := hr_ 21 (by decide) (hw_ 21 (by kernel_rfl))
                        replace hl36 : Gk.look F_ 36 = some (.pointer (some ⟨g29, 3, none⟩)) := hl36
                        obtain ⟨q132, hl35, rfl, _⟩ := hr_ 20 (by decide) (hw_ 20 (by kernel_rfl))
                        replace hl35 : Gk.look F_ 35 = some (.bool x117) := hl35
                        refine LW.loadB1 b36 kOne_3 rfl (ws 35 rfl (bk hl35 hb121)) rfl hl36 ?_
                        refine LW.nil ?_; intro a_ ha_
                        exact ⟨rfl, _, _, ha_, ⟨rfl, trivial⟩, Ke.refl, cx, s3, b36, s25, s28, trivial⟩
                      · intro o_ L_ F_ lab_ w_ ho_ hL_ hw_ hcl_ hb_ hr_ hq_; obtain rfl := Option.some.inj (ho_ : some _ = some o_); obtain ⟨cx, s3, b36, s25, s28, _⟩ := hq_
                        obtain ⟨q133, hl37, rfl, _⟩ := hr_ 22 (by decide) (hw_ 22 (by kernel_rfl))
                        replace hl37 : Gk.look F_ 37 = some (.int .i64 x18.Until) := hl37
                        obtain ⟨q134, hl35, rfl, _⟩ := hr_ 20 (by decide) (hw_ 20 (by kernel_rfl))
                        replace hl35 : Gk.look F_ 35 = some (.bool x117) := hl35
                        refine LW.lss (letm_eq hx_x135) (ws 35 rfl (bk hl35 hb121)) rfl hl37 rfl ?_; intro x_ hx_; cases hx_
                        refine LW.nil ?_; intro a_ ha_
                        exact ⟨rfl, _, _, ha_, ⟨rfl, trivial⟩, Ke.refl, cx, s3, b36, s25, s28, trivial⟩
                      · intro o_ L_ F_ lab_ w_ ho_ hL_ hw_ hcl_ hb_ hr_ hq_; obtain rfl := Option.some.inj (ho_ : some _ = some o_); obtain ⟨cx, s3, b36, s25, s28, _⟩ := hq_
                        obtain ⟨q136, hl35, rfl, _⟩ := hr_ 20 (by decide) (hw_ 20 (by kernel_rfl))
                        replace hl35 : Gk.look F_ 35 = some (.bool x117) := hl35
                        obtain ⟨q137, hl38, rfl, _⟩ := hr_ 23 (by decide) (hw_ 23 (by kernel_rfl))
                        replace hl38 : Gk.look F_ 38 = some (.bool x135) := hl38
                        refine LW.pick_f wn rfl (bk hl35 hb121) hl38 ?_
                        refine LW.nil ?_; intro a_ ha_
                        exact ⟨rfl, _, _, ha_, ⟨rfl, trivial⟩, Ke.refl, cx, s3, b36, s25, s28, trivial⟩
                      · intro o_ L_ F_ lab_ w_ ho_ hL_ hw_ hcl_ hb_ hr_ hq_; obtain rfl := Option.some.inj (ho_ : some _ = some o_); obtain ⟨cx, s3, b36, s25, s28, _⟩ := hq_
                        obtain ⟨q138, hl39, rfl, _⟩ := hr_ 24 (by decide) (hw_ 24 (by kernel_rfl))
                        replace hl39 : Gk.look F_ 39 = some (.bool x135) := hl39
                        refine LW.move wn rfl hl39 ?_
                        refine LW.nil ?_; intro a_ ha_
                        exact ⟨rfl, _, _, ha_, ⟨rfl, trivial⟩, Ke.refl, cx, s3, b36, s25, s28, trivial⟩
                      · exact ob_skip (b' := true) 25 rfl (by kernel_rfl) (by decide) ⟨_, rfl⟩ (fun _ _ _ _ h_ => .inl (h_.1.trans (congrArg Value.bool hb139))) rfl rfl (fun _ _ _ => ⟨rfl, trivial⟩) (fun _ _ _ h_ => h_)
                      · exact ob_skip (b' := true) 25 rfl (by kernel_rfl) (by decide) ⟨_, rfl⟩ (fun _ _ _ _ h_ => .inl (h_.1.trans (congrArg Value.bool hb139))) rfl rfl (fun _ _ _ => ⟨rfl, trivial⟩) (fun _ _ _ h_ => h_)
                      · exact ob_skip (b' := true) 25 rfl (by kernel_rfl) (by decide) ⟨_, rfl⟩ (fun _ _ _ _ h_ => .inl (h_.1.trans (congrArg Value.bool hb139))) rfl rfl (fun _ _ _ => ⟨rfl, trivial⟩) (fun _ _ _ h_ => h_)
                      · exact ob_skip (b' := true) 25 rfl (by kernel_rfl) (by decide) ⟨_, rfl⟩ (fun _ _ _ _ h_ => .inl (h_.1.trans (congrArg Value.bool hb139))) rfl rfl (fun _ _ _ => ⟨rfl, trivial⟩) (fun _ _ _ h_ => h_)
                      · exact ob_skip (b' := true) 25 rfl (by kernel_rfl) (by decide) ⟨_, rfl⟩ (fun _ _ _ _ h_ => .inl (h_.1.trans (congrArg Value.bool hb139))) rfl rfl (fun _ _ _ => ⟨rfl, trivial⟩) (fun _ _ _ h_ => h_)
                      · exact ob_skip (b' := true) 25 rfl (by kernel_rfl) (by decide) ⟨_, rfl⟩ (fun _ _ _ _ h_ => .inl (h_.1.trans (congrArg Value.bool hb139))) rfl rfl (fun _ _ _ => ⟨rfl, trivial⟩) (fun _ _ _ h_ => h_)
                      · exact ob_skip (b' := true) 25 rfl (by kernel_rfl) (by decide) ⟨_, rfl⟩ (fun _ _ _ _ h_ => .inl (h_.1.trans (congrArg Value.bool hb139))) rfl rfl (fun _ _ _ => ⟨rfl, trivial⟩) (fun _ _ _ h_ => h_)
                      · exact ob_skip (b' := true) 25 rfl (by kernel_rfl) (by decide) ⟨_, rfl⟩ (fun _ _ _ _ h_ => .inl (h_.1.trans (congrArg Value.bool hb139))) rfl rfl (fun _ _ _ => ⟨rfl, trivial⟩) (fun _ _ _ h_ => h_)
                      · exact ob_skip (b' := true) 25 rfl (by kernel_rfl) (by decide) ⟨_, rfl⟩ (fun _ _ _ _ h_ => .inl (h_.1.trans (congrArg Value.bool hb139))) rfl rfl (fun _ _ _ => ⟨rfl, trivial⟩) (fun _ _ _ h_ => h_)
                      · intro o_ L_ F_ lab_ w_ ho_ hL_ hw_ hcl_ hb_ hr_ hq_; obtain rfl := Option.some.inj (ho_ : some _ = some o_); obtain ⟨cx, s3, b36, s25, s28, _⟩ := hq_
                        obtain ⟨q140, hl40, rfl, _⟩ := hr_ 25 (by decide) (hw_ 25 (by kernel_rfl))
                        replace hl40 : Gk.look F_ 40 = some (.bool x135) := hl40
                        obtain ⟨q141, hl49, rfl, _⟩ := hr_ 34 (by decide) (hw_ 34 (by kernel_rfl))
                        replace hl49 : Gk.look F_ 49 = some (undef) := hl49
                        refine LW.pick_t wn rfl (bk hl40 hb139) rfl ?_
                        refine LW.nil ?_; intro a_ ha_
                        exact ⟨rfl, _, _, ha_, ⟨rfl, trivial⟩, Ke.refl, cx, s3, b36, s25, s28, trivial⟩
                    · intro F_ lab_ w_ hb_ hr_ hq_; obtain ⟨cx, s3, b36, s25, s28, _⟩ := hq_
                      obtain ⟨q144, hl50, rfl, _⟩ := hr_ 35 (by decide)
                      refine LW.sub (G := [(0, .slice oa1 a0.length c2), (3, .int .i64 ((k16 : Nat) : Int)), (4, .pointer (some ⟨g29, 0, none⟩)), (8, .slice oa1 a0.length c2), (9, .int .i64 (a0.length : Int)), (10, .int .i64 ((k16 : Nat) : Int)), (50, .bool true)]) ⟨hb_ 0 _ rfl, hb_ 3 _ rfl, hb_ 4 _ rfl, hb_ 8 _ rfl, hb_ 9 _ rfl, hb_ 10 _ rfl, hl50, trivial⟩ ?_
                      simp only [List.drop_succ_cons, List.drop_nil, List.drop_zero]
                      refine LW.nil ?_
                      obtain rfl := Option.some.inj hm
                      refine EW.sub (G := [(0, .slice oa1 a0.length c2), (8, .slice oa1 a0.length c2), (9, .int .i64 (a0.length : Int)), (10, .int .i64 ((k16 : Nat) : Int)), (50, .bool true)]) ⟨rfl, rfl, rfl, rfl, rfl, trivial⟩ ?_
                      exact EW.join_n ⟨_, rfl, cx, s3, trivial⟩
                  · replace hm := cond_f hm hb139
                    obtain ⟨x150, hx_x150, hm_⟩ := bnd_some hm; clear hm; have hm := hm_; clear hm_
                    obtain ⟨y167, hx_y167, hm_⟩ := bnd_some hm; clear hm; have hm := hm_; clear hm_
                    obtain ⟨x173, hx_x173, hm_⟩ := letm_some hm; clear hm; have hm := hm_; clear hm_
                    refine CW.sub (G := [(0, .slice oa1 a0.length c2), (3, .int .i64 ((k16 : Nat) : Int)), (4, .pointer (some ⟨g29, 0, none⟩)), (8, .slice oa1 a0.length c2), (9, .int .i64 (a0.length : Int)), (10, .int .i64 ((k16 : Nat) : Int))]) ⟨rfl, rfl, rfl, rfl, rfl, rfl, trivial⟩ ?_
                    refine CW.drawL (fun i_ => []) (fun i_ => by (try dsimp only); (repeat' split) <;> rfl) kMix_ 36 (by kernel_rfl) cx.top ?_
                    intro w176 e177
                    replace cx := cx.step e177 rfl
                    replace s3 := s3.step e177
                    replace b36 := b36.step e177 rfl
                    replace s25 := s25.step e177
                    replace s28 := s28.step e177
                    clear e177
                    refine ⟨[(fun L_ lab_ w_ v_ => v_ = .pointer (some ⟨g29, 0, none⟩) ∧ True),
    (fun L_ lab_ w_ v_ => v_ = .int .i64 x18.Peer ∧ True),
    (fun L_ lab_ w_ v_ => v_ = .bool x43 ∧ True),
    (fun L_ lab_ w_ v_ => v_ = .bool x43 ∧ True),
    (fun L_ lab_ w_ v_ => v_ = .pointer (some ⟨g29, 0, none⟩) ∧ True),
    (fun L_ lab_ w_ v_ => v_ = .int .i64 x18.Peer ∧ True),
    (fun L_ lab_ w_ v_ => v_ = .bool x68 ∧ True),
    (fun L_ lab_ w_ v_ => v_ = .bool x68 ∧ True),
    (fun L_ lab_ w_ v_ => v_ = .bool x68 ∧ True),
    (fun L_ lab_ w_ v_ => v_ = .pointer (some ⟨g29, 1, none⟩) ∧ True),
    (fun L_ lab_ w_ v_ => v_ = .slice oa23 x18.Key.length c24 ∧ True),
    (fun L_ lab_ w_ v_ => v_ = .int .i64 (x18.Key.length : Int) ∧ True),
    (fun L_ lab_ w_ v_ => v_ = .bool x94 ∧ True),
    (fun L_ lab_ w_ v_ => v_ = .bool x94 ∧ True),
    (fun L_ lab_ w_ v_ => v_ = .bool x94 ∧ True),
    (fun L_ lab_ w_ v_ => v_ = .pointer (some ⟨g29, 2, none⟩) ∧ True),
    (fun L_ lab_ w_ v_ => v_ = .slice oa26 x18.Data.length c27 ∧ True),
    (fun L_ lab_ w_ v_ => v_ = .int .i64 (x18.Data.length : Int) ∧ True),
    (fun L_ lab_ w_ v_ => v_ = .bool x117 ∧ True),
    (fun L_ lab_ w_ v_ => v_ = .bool x117 ∧ True),
    (fun L_ lab_ w_ v_ => v_ = .bool x117 ∧ True),
    (fun L_ lab_ w_ v_ => v_ = .pointer (some ⟨g29, 3, none⟩) ∧ True),
    (fun L_ lab_ w_ v_ => v_ = .int .i64 x18.Until ∧ True),
    (fun L_ lab_ w_ v_ => v_ = .bool x135 ∧ True),
    (fun L_ lab_ w_ v_ => v_ = .bool x135 ∧ True),
    (fun L_ lab_ w_ v_ => v_ = .bool x135 ∧ True),
    (fun L_ lab_ w_ v_ => v_ = .slice oa1 a0.length c2 ∧ True),
    (fun L_ lab_ w_ v_ => v_ = .int .i64 ((k16 : Nat) : Int) ∧ True),
    (fun L_ lab_ w_ v_ => ∃ (oa151 : Option Addr) (c152 : Nat), v_ = .slice oa151 x150.length c152 ∧ SL R_api_Partial lab_ w_ oa151 c152 x150 ∧ True),
    (fun L_ lab_ w_ v_ => v_ = .pointer (some ⟨g29, 0, none⟩) ∧ True),
    (fun L_ lab_ w_ v_ => v_ = .int .i64 x18.Peer ∧ True),
    (fun L_ lab_ w_ v_ => v_ = .pointer (some ⟨g29, 1, none⟩) ∧ True),
    (fun L_ lab_ w_ v_ => v_ = .slice oa23 x18.Key.length c24 ∧ True),
    (fun L_ lab_ w_ v_ => v_ = .int .i64 y167 ∧ True),
    (fun L_ lab_ w_ v_ => v_ = .bool x173 ∧ True),
    (fun L_ lab_ w_ v_ => v_ = .bool x173 ∧ True)], (fun L_ lab_ w_ => Cx [] w lab w_ lab_ ∧ SL R_api_Partial lab_ w_ oa1 c2 a0 ∧ Box lab_ w_ 14 g29 63 [.int .i64 x18.Peer, .slice oa23 x18.Key.length c24, .slice oa26 x18.Data.length c27, .int .i64 x18.Until] ∧ SL Rep.u8 lab_ w_ oa23 c24 x18.Key ∧ SL Rep.u8 lab_ w_ oa26 c27 x18.Data ∧ True), ?_, ⟨cx, s3, b36, s25, s28, trivial⟩, ?_, ?_⟩
                    · exact ⟨by rintro i_ L_ lab_ w_ lab2_ w2_ v_ hne_ hd_ hk_ hp_ ⟨hv_, _⟩; exact ⟨hv_, trivial⟩, by rintro i_ L_ lab_ w_ lab2_ w2_ v_ hne_ hd_ hk_ hp_ ⟨hv_, _⟩; exact ⟨hv_, trivial⟩, by rintro i_ L_ lab_ w_ lab2_ w2_ v_ hne_ hd_ hk_ hp_ ⟨hv_, _⟩; exact ⟨hv_, trivial⟩, by rintro i_ L_ lab_ w_ lab2_ w2_ v_ hne_ hd_ hk_ hp_ ⟨hv_, _⟩; exact ⟨hv_, trivial⟩, by rintro i_ L_ lab_ w_ lab2_ w2_ v_ hne_ hd_ hk_ hp_ ⟨hv_, _⟩; exact ⟨hv_, trivial⟩, by rintro i_ L_ lab_ w_ lab2_ w2_ v_ hne_ hd_ hk_ hp_ ⟨hv_, _⟩; exact ⟨hv_, trivial⟩, by rintro i_ L_ lab_ w_ lab2_ w2_ v_ hne_ hd_ hk_ hp_ ⟨hv_, _⟩; exact ⟨hv_, trivial⟩, by rintro i_ L_ lab_ w_ lab2_ w2_ v_ hne_ hd_ hk_ hp_ ⟨hv_, _⟩; exact ⟨hv_, trivial⟩, by rintro i_ L_ lab_ w_ lab2_ w2_ v_ hne_ hd_ hk_ hp_ ⟨hv_, _⟩; exact ⟨hv_, trivial⟩, by rintro i_ L_ lab_ w_ lab2_ w2_ v_ hne_ hd_ hk_ hp_ ⟨hv_, _⟩; exact ⟨hv_, trivial⟩, by rintro i_ L_ lab_ w_ lab2_ w2_ v_ hne_ hd_ hk_ hp_ ⟨hv_, _⟩; exact ⟨hv_, trivial⟩, by rintro i_ L_ lab_ w_ lab2_ w2_ v_ hne_ hd_ hk_ hp_ ⟨hv_, _⟩; exact ⟨hv_, trivial⟩, by rintro i_ L_ lab_ w_ lab2_ w2_ v_ hne_ hd_ hk_ hp_ ⟨hv_, _⟩; exact ⟨hv_, trivial⟩, by rintro i_ L_ lab_ w_ lab2_ w2_ v_ hne_ hd_ hk_ hp_ ⟨hv_, _⟩; exact ⟨hv_, trivial⟩, by rintro i_ L_ lab_ w_ lab2_ w2_ v_ hne_ hd_ hk_ hp_ ⟨hv_, _⟩; exact ⟨hv_, trivial⟩, by rintro i_ L_ lab_ w_ lab2_ w2_ v_ hne_ hd_ hk_ hp_ ⟨hv_, _⟩; exact ⟨hv_, trivial⟩, by rintro i_ L_ lab_ w_ lab2_ w2_ v_ hne_ hd_ hk_ hp_ ⟨hv_, _⟩; exact ⟨hv_, trivial⟩, by rintro i_ L_ lab_ w_ lab2_ w2_ v_ hne_ hd_ hk_ hp_ ⟨hv_, _⟩; exact ⟨hv_, trivial⟩, by rintro i_ L_ lab_ w_ lab2_ w2_ v_ hne_ hd_ hk_ hp_ ⟨hv_, _⟩; exact ⟨hv_, trivial⟩, by rintro i_ L_ lab_ w_ lab2_ w2_ v_ hne_ hd_ hk_ hp_ ⟨hv_, _⟩; exact ⟨hv_, trivial⟩, by rintro i_ L_ lab_ w_ lab2_ w2_ v_ hne_ hd_ hk_ hp_ ⟨hv_, _⟩; exact ⟨hv_, trivial⟩, by rintro i_ L_ lab_ w_ lab2_ w2_ v_ hne_ hd_ hk_ hp_ ⟨hv_, _⟩; exact ⟨hv_, trivial⟩, by rintro i_ L_ lab_ w_ lab2_ w2_ v_ hne_ hd_ hk_ hp_ ⟨hv_, _⟩; exact ⟨hv_, trivial⟩, by rintro i_ L_ lab_ w_ lab2_ w2_ v_ hne_ hd_ hk_ hp_ ⟨hv_, _⟩; exact ⟨hv_, trivial⟩, by rintro i_ L_ lab_ w_ lab2_ w2_ v_ hne_ hd_ hk_ hp_ ⟨hv_, _⟩; exact ⟨hv_, trivial⟩, by rintro i_ L_ lab_ w_ lab2_ w2_ v_ hne_ hd_ hk_ hp_ ⟨hv_, _⟩; exact ⟨hv_, trivial⟩, by rintro i_ L_ lab_ w_ lab2_ w2_ v_ hne_ hd_ hk_ hp_ ⟨hv_, _⟩; exact ⟨hv_, trivial⟩, by rintro i_ L_ lab_ w_ lab2_ w2_ v_ hne_ hd_ hk_ hp_ ⟨hv_, _⟩; exact ⟨hv_, trivial⟩, by rintro i_ L_ lab_ w_ lab2_ w2_ v_ hne_ hd_ hk_ hp_ ⟨oa151, c152, hv_, s153, _⟩; exact ⟨oa151, c152, hv_, (s153.keep hp_), trivial⟩, by rintro i_ L_ lab_ w_ lab2_ w2_ v_ hne_ hd_ hk_ hp_ ⟨hv_, _⟩; exact ⟨hv_, trivial⟩, by rintro i_ L_ lab_ w_ lab2_ w2_ v_ hne_ hd_ hk_ hp_ ⟨hv_, _⟩; exact ⟨hv_, trivial⟩, by rintro i_ L_ lab_ w_ lab2_ w2_ v_ hne_ hd_ hk_ hp_ ⟨hv_, _⟩; exact ⟨hv_, trivial⟩, by rintro i_ L_ lab_ w_ lab2_ w2_ v_ hne_ hd_ hk_ hp_ ⟨hv_, _⟩; exact ⟨hv_, trivial⟩, by rintro i_ L_ lab_ w_ lab2_ w2_ v_ hne_ hd_ hk_ hp_ ⟨hv_, _⟩; exact ⟨hv_, trivial⟩, by rintro i_ L_ lab_ w_ lab2_ w2_ v_ hne_ hd_ hk_ hp_ ⟨hv_, _⟩; exact ⟨hv_, trivial⟩, by rintro i_ L_ lab_ w_ lab2_ w2_ v_ hne_ hd_ hk_ hp_ ⟨hv_, _⟩; exact ⟨hv_, trivial⟩, trivial⟩
                    · refine (ob_succ (ob_succ (ob_succ (ob_succ (ob_succ (ob_succ (ob_succ (ob_succ (ob_succ (ob_succ (ob_succ (ob_succ (ob_succ (ob_succ (ob_succ (ob_succ (ob_succ (ob_succ (ob_succ (ob_succ (ob_succ (ob_succ (ob_succ (ob_succ (ob_succ (ob_succ (ob_succ (ob_succ (ob_succ (ob_succ (ob_succ (ob_succ (ob_succ (ob_succ (ob_succ (ob_succ ob_nil ?_) ?_) ?_) ?_) ?_) ?_) ?_) ?_) ?_) ?_) ?_) ?_) ?_) ?_) ?_) ?_) ?_) ?_) ?_) ?_) ?_) ?_) ?_) ?_) ?_) ?_) ?_) ?_) ?_) ?_) ?_) ?_) ?_) ?_) ?_) ?_)
                      · intro o_ L_ F_ lab_ w_ ho_ hL_ hw_ hcl_ hb_ hr_ hq_; obtain rfl := Option.some.inj (ho_ : some _ = some o_); obtain ⟨cx, s3, b36, s25, s28, _⟩ := hq_
                        have hl4 := hb_ 4 _ rfl
                        refine LW.fldB 0 kFld_63_0 rfl wn rfl hl4 ?_
                        refine LW.nil ?_; intro a_ ha_
                        exact ⟨rfl, _, _, ha_, ⟨rfl, trivial⟩, Ke.refl, cx, s3, b36, s25, s28, trivial⟩
                      · intro o_ L_ F_ lab_ w_ ho_ hL_ hw_ hcl_ hb_ hr_ hq_; obtain rfl := Option.some.inj (ho_ : some _ = some o_); obtain ⟨cx, s3, b36, s25, s28, _⟩ := hq_
                        obtain ⟨q41, hl15, rfl, _⟩ := hr_ 0 (by decide) (hw_ 0 (by kernel_rfl))
                        replace hl15 : Gk.look F_ 15 = some (.pointer (some ⟨g29, 0, none⟩)) := hl15
                        refine LW.loadB1 b36 kOne_3 rfl wn rfl hl15 ?_
                        refine LW.nil ?_; intro a_ ha_
                        exact ⟨rfl, _, _, ha_, ⟨rfl, trivial⟩, Ke.refl, cx, s3, b36, s25, s28, trivial⟩
                      · intro o_ L_ F_ lab_ w_ ho_ hL_ hw_ hcl_ hb_ hr_ hq_; obtain rfl := Option.some.inj (ho_ : some _ = some o_); obtain ⟨cx, s3, b36, s25, s28, _⟩ := hq_
                        obtain ⟨q42, hl16, rfl, _⟩ := hr_ 1 (by decide) (hw_ 1 (by kernel_rfl))
                        replace hl16 : Gk.look F_ 16 = some (.int .i64 x18.Peer) := hl16
                        refine LW.lss (letm_eq hx_x43) wn rfl hl16 rfl ?_; intro x_ hx_; cases hx_
                        refine LW.nil ?_; intro a_ ha_
                        exact ⟨rfl, _, _, ha_, ⟨rfl, trivial⟩, Ke.refl, cx, s3, b36, s25, s28, trivial⟩
                      · intro o_ L_ F_ lab_ w_ ho_ hL_ hw_ hcl_ hb_ hr_ hq_; obtain rfl := Option.some.inj (ho_ : some _ = some o_); obtain ⟨cx, s3, b36, s25, s28, _⟩ := hq_
                        obtain ⟨q44, hl17, rfl, _⟩ := hr_ 2 (by decide) (hw_ 2 (by kernel_rfl))
                        replace hl17 : Gk.look F_ 17 = some (.bool x43) := hl17
                        refine LW.move wn rfl hl17 ?_
                        refine LW.nil ?_; intro a_ ha_
                        exact ⟨rfl, _, _, ha_, ⟨rfl, trivial⟩, Ke.refl, cx, s3, b36, s25, s28, trivial⟩
                      · intro o_ L_ F_ lab_ w_ ho_ hL_ hw_ hcl_ hb_ hr_ hq_; obtain rfl := Option.some.inj (ho_ : some _ = some o_); obtain ⟨cx, s3, b36, s25, s28, _⟩ := hq_
                        have hl4 := hb_ 4 _ rfl
                        obtain ⟨q63, hl18, rfl, _⟩ := hr_ 3 (by decide) (hw_ 3 (by kernel_rfl))
                        replace hl18 : Gk.look F_ 18 = some (.bool x43) := hl18
                        refine LW.fldB 0 kFld_63_0 rfl (ws 18 rfl (bk hl18 hb45)) rfl hl4 ?_
                        refine LW.nil ?_; intro a_ ha_
                        exact ⟨rfl, _, _, ha_, ⟨rfl, trivial⟩, Ke.refl, cx, s3, b36, s25, s28, trivial⟩
                      · intro o_ L_ F_ lab_ w_ ho_ hL_ hw_ hcl_ hb_ hr_ hq_; obtain rfl := Option.some.inj (ho_ : some _ = some o_); obtain ⟨cx, s3, b36, s25, s28, _⟩ := hq_
                        obtain ⟨q64, hl19, rfl, _⟩ := hr_ 4 (by decide) (hw_ 4 (by kernel_rfl))
                        replace hl19 : Gk.look F_ 19 = some (.pointer (some ⟨g29, 0, none⟩)) := hl19
                        obtain ⟨q65, hl18, rfl, _⟩ := hr_ 3 (by decide) (hw_ 3 (by kernel_rfl))
                        replace hl18 : Gk.look F_ 18 = some (.bool x43) := hl18
                        refine LW.loadB1 b36 kOne_3 rfl (ws 18 rfl (bk hl18 hb45)) rfl hl19 ?_
                        refine LW.nil ?_; intro a_ ha_
                        exact ⟨rfl, _, _, ha_, ⟨rfl, trivial⟩, Ke.refl, cx, s3, b36, s25, s28, trivial⟩
                      · intro o_ L_ F_ lab_ w_ ho_ hL_ hw_ hcl_ hb_ hr_ hq_; obtain rfl := Option.some.inj (ho_ : some _ = some o_); obtain ⟨cx, s3, b36, s25, s28, _⟩ := hq_
                        obtain ⟨q66, hl20, rfl, _⟩ := hr_ 5 (by decide) (hw_ 5 (by kernel_rfl))
                        replace hl20 : Gk.look F_ 20 = some (.int .i64 x18.Peer) := hl20
                        obtain ⟨q67, hl18, rfl, _⟩ := hr_ 3 (by decide) (hw_ 3 (by kernel_rfl))
                        replace hl18 : Gk.look F_ 18 = some (.bool x43) := hl18
                        refine LW.gtr (letm_eq hx_x68) (ws 18 rfl (bk hl18 hb45)) rfl hl20 rfl ?_; intro x_ hx_; cases hx_
                        refine LW.nil ?_; intro a_ ha_
                        exact ⟨rfl, _, _, ha_, ⟨rfl, trivial⟩, Ke.refl, cx, s3, b36, s25, s28, trivial⟩
                      · intro o_ L_ F_ lab_ w_ ho_ hL_ hw_ hcl_ hb_ hr_ hq_; obtain rfl := Option.some.inj (ho_ : some _ = some o_); obtain ⟨cx, s3, b36, s25, s28, _⟩ := hq_
                        obtain ⟨q69, hl18, rfl, _⟩ := hr_ 3 (by decide) (hw_ 3 (by kernel_rfl))
                        replace hl18 : Gk.look F_ 18 = some (.bool x43) := hl18
                        obtain ⟨q70, hl21, rfl, _⟩ := hr_ 6 (by decide) (hw_ 6 (by kernel_rfl))
                        replace hl21 : Gk.look F_ 21 = some (.bool x68) := hl21
                        refine LW.pick_f wn rfl (bk hl18 hb45) hl21 ?_
                        refine LW.nil ?_; intro a_ ha_
                        exact ⟨rfl, _, _, ha_, ⟨rfl, trivial⟩, Ke.refl, cx, s3, b36, s25, s28, trivial⟩
                      · intro o_ L_ F_ lab_ w_ ho_ hL_ hw_ hcl_ hb_ hr_ hq_; obtain rfl := Option.some.inj (ho_ : some _ = some o_); obtain ⟨cx, s3, b36, s25, s28, _⟩ := hq_
                        obtain ⟨q71, hl22, rfl, _⟩ := hr_ 7 (by decide) (hw_ 7 (by kernel_rfl))
                        replace hl22 : Gk.look F_ 22 = some (.bool x68) := hl22
                        refine LW.move wn rfl hl22 ?_
                        refine LW.nil ?_; intro a_ ha_
                        exact ⟨rfl, _, _, ha_, ⟨rfl, trivial⟩, Ke.refl, cx, s3, b36, s25, s28, trivial⟩
                      · intro o_ L_ F_ lab_ w_ ho_ hL_ hw_ hcl_ hb_ hr_ hq_; obtain rfl := Option.some.inj (ho_ : some _ = some o_); obtain ⟨cx, s3, b36, s25, s28, _⟩ := hq_
                        have hl4 := hb_ 4 _ rfl
                        obtain ⟨q87, hl23, rfl, _⟩ := hr_ 8 (by decide) (hw_ 8 (by kernel_rfl))
                        replace hl23 : Gk.look F_ 23 = some (.bool x68) := hl23
                        refine LW.fldB 1 kFld_63_1 rfl (ws 23 rfl (bk hl23 hb72)) rfl hl4 ?_
                        refine LW.nil ?_; intro a_ ha_
                        exact ⟨rfl, _, _, ha_, ⟨rfl, trivial⟩, Ke.refl, cx, s3, b36, s25, s28, trivial⟩
                      · intro o_ L_ F_ lab_ w_ ho_ hL_ hw_ hcl_ hb_ hr_ hq_; obtain rfl := Option.some.inj (ho_ : some _ = some o_); obtain ⟨cx, s3, b36, s25, s28, _⟩ := hq_
                        obtain ⟨q88, hl24, rfl, _⟩ := hr_ 9 (by decide) (hw_ 9 (by kernel_rfl))
                        replace hl24 : Gk.look F_ 24 = some (.pointer (some ⟨g29, 1, none⟩)) := hl24
                        obtain ⟨q89, hl23, rfl, _⟩ := hr_ 8 (by decide) (hw_ 8 (by kernel_rfl))
                        replace hl23 : Gk.look F_ 23 = some (.bool x68) := hl23
                        refine LW.loadB1 b36 kOne_24 rfl (ws 23 rfl (bk hl23 hb72)) rfl hl24 ?_
                        refine LW.nil ?_; intro a_ ha_
                        exact ⟨rfl, _, _, ha_, ⟨rfl, trivial⟩, Ke.refl, cx, s3, b36, s25, s28, trivial⟩
                      · intro o_ L_ F_ lab_ w_ ho_ hL_ hw_ hcl_ hb_ hr_ hq_; obtain rfl := Option.some.inj (ho_ : some _ = some o_); obtain ⟨cx, s3, b36, s25, s28, _⟩ := hq_
                        obtain ⟨q90, hl25, rfl, _⟩ := hr_ 10 (by decide) (hw_ 10 (by kernel_rfl))
                        replace hl25 : Gk.look F_ 25 = some (.slice oa23 x18.Key.length c24) := hl25
                        obtain ⟨q91, hl23, rfl, _⟩ := hr_ 8 (by decide) (hw_ 8 (by kernel_rfl))
                        replace hl23 : Gk.look F_ 23 = some (.bool x68) := hl23
                        refine LW.len kUnd_24 (ws 23 rfl (bk hl23 hb72)) rfl hl25 ?_
                        refine LW.nil ?_; intro a_ ha_
                        exact ⟨rfl, _, _, ha_, ⟨rfl, trivial⟩, Ke.refl, cx, s3, b36, s25, s28, trivial⟩
                      · intro o_ L_ F_ lab_ w_ ho_ hL_ hw_ hcl_ hb_ hr_ hq_; obtain rfl := Option.some.inj (ho_ : some _ = some o_); obtain ⟨cx, s3, b36, s25, s28, _⟩ := hq_
                        obtain ⟨q92, hl26, rfl, _⟩ := hr_ 11 (by decide) (hw_ 11 (by kernel_rfl))
                        replace hl26 : Gk.look F_ 26 = some (.int .i64 (x18.Key.length : Int)) := hl26
                        obtain ⟨q93, hl23, rfl, _⟩ := hr_ 8 (by decide) (hw_ 8 (by kernel_rfl))
                        replace hl23 : Gk.look F_ 23 = some (.bool x68) := hl23
                        refine LW.gtr (letm_eq hx_x94) (ws 23 rfl (bk hl23 hb72)) rfl hl26 rfl ?_; intro x_ hx_; cases hx_
                        refine LW.nil ?_; intro a_ ha_
                        exact ⟨rfl, _, _, ha_, ⟨rfl, trivial⟩, Ke.refl, cx, s3, b36, s25, s28, trivial⟩
                      · intro o_ L_ F_ lab_ w_ ho_ hL_ hw_ hcl_ hb_ hr_ hq_; obtain rfl := Option.some.inj (ho_ : some _ = some o_); obtain ⟨cx, s3, b36, s25, s28, _⟩ := hq_
                        obtain ⟨q95, hl23, rfl, _⟩ := hr_ 8 (by decide) (hw_ 8 (by kernel_rfl))
                        replace hl23 : Gk.look F_ 23 = some (.bool x68) := hl23
                        obtain ⟨q96, hl27, rfl, _⟩ := hr_ 12 (by decide) (hw_ 12 (by kernel_rfl))
                        replace hl27 : Gk.look F_ 27 = some (.bool x94) := hl27
                        refine LW.pick_f wn rfl (bk hl23 hb72) hl27 ?_
                        refine LW.nil ?_; intro a_ ha_
                        exact ⟨rfl, _, _, ha_, ⟨rfl, trivial⟩, Ke.refl, cx, s3, b36, s25, s28, trivial⟩
                      · intro o_ L_ F_ lab_ w_ ho_ hL_ hw_ hcl_ hb_ hr_ hq_; obtain rfl := Option.some.inj (ho_ : some _ = some o_); obtain ⟨cx, s3, b36, s25, s28, _⟩ := hq_
                        obtain ⟨q97, hl28, rfl, _⟩ := hr_ 13 (by decide) (hw_ 13 (by kernel_rfl))
                        replace hl28 : Gk.look F_ 28 = some (.bool x94) := hl28
                        refine LW.move wn rfl hl28 ?_
                        refine LW.nil ?_; intro a_ ha_
                        exact ⟨rfl, _, _, ha_, ⟨rfl, trivial⟩, Ke.refl, cx, s3, b36, s25, s28, trivial⟩
                      · intro o_ L_ F_ lab_ w_ ho_ hL_ hw_ hcl_ hb_ hr_ hq_; obtain rfl := Option.some.inj (ho_ : some _ = some o_); obtain ⟨cx, s3, b36, s25, s28, _⟩ := hq_
                        have hl4 := hb_ 4 _ rfl
                        obtain ⟨q110, hl29, rfl, _⟩ := hr_ 14 (by decide) (hw_ 14 (by kernel_rfl))
                        replace hl29 : Gk.look F_ 29 = some (.bool x94) := hl29
                        refine LW.fldB 2 kFld_63_2 rfl (ws 29 rfl (bk hl29 hb98)) rfl hl4 ?_
                        refine LW.nil ?_; intro a_ ha_
                        exact ⟨rfl, _, _, ha_, ⟨rfl, trivial⟩, Ke.refl, cx, s3, b36, s25, s28, trivial⟩
                      · intro o_ L_ F_ lab_ w_ ho_ hL_ hw_ hcl_ hb_ hr_ hq_; obtain rfl := Option.some.inj (ho_ : some _ = some o_); obtain ⟨cx, s3, b36, s25, s28, _⟩ := hq_
                        obtain ⟨q111, hl30, rfl, _⟩ := hr_ 15 (by decide) (hw_ 15 (by kernel_rfl))
                        replace hl30 : Gk.look F_ 30 = some (.pointer (some ⟨g29, 2, none⟩)) := hl30
                        obtain ⟨q112, hl29, rfl, _⟩ := hr_ 14 (by decide) (hw_ 14 (by kernel_rfl))
                        replace hl29 : Gk.look F_ 29 = some (.bool x94) := hl29
                        refine LW.loadB1 b36 kOne_24 rfl (ws 29 rfl (bk hl29 hb98)) rfl hl30 ?_
                        refine LW.nil ?_; intro a_ ha_
                        exact ⟨rfl, _, _, ha_, ⟨rfl, trivial⟩, Ke.refl, cx, s3, b36, s25, s28, trivial⟩
                      · intro o_ L_ F_ lab_ w_ ho_ hL_ hw_ hcl_ hb_ hr_ hq_; obtain rfl := Option.some.inj (ho_ : some _ = some o_); obtain ⟨cx, s3, b36, s25, s28, _⟩ := hq_
                        obtain ⟨q113, hl31, rfl, _⟩ := hr_ 16 (by decide) (hw_ 16 (by kernel_rfl))
                        replace hl31 : Gk.look F_ 31 = some (.slice oa26 x18.Data.length c27) := hl31
                        obtain ⟨q114, hl29, rfl, _⟩ := hr_ 14 (by decide) (hw_ 14 (by kernel_rfl))
                        replace hl29 : Gk.look F_ 29 = some (.bool x94) := hl29
                        refine LW.len kUnd_24 (ws 29 rfl (bk hl29 hb98)) rfl hl31 ?_
                        refine LW.nil ?_; intro a_ ha_
                        exact ⟨rfl, _, _, ha_, ⟨rfl, trivial⟩, Ke.refl, cx, s3, b36, s25, s28, trivial⟩
                      · intro o_ L_ F_ lab_ w_ ho_ hL_ hw_ hcl_ hb_ hr_ hq_; obtain rfl := Option.some.inj (ho_ : some _ = some o_); obtain ⟨cx, s3, b36, s25, s28, _⟩ := hq_
                        obtain ⟨q115, hl32, rfl, _⟩ := hr_ 17 (by decide) (hw_ 17 (by kernel_rfl))
                        replace hl32 : Gk.look F_ 32 = some (.int .i64 (x18.Data.length : Int)) := hl32
                        obtain ⟨q116, hl29, rfl, _⟩ := hr_ 14 (by decide) (hw_ 14 (by kernel_rfl))
                        replace hl29 : Gk.look F_ 29 = some (.bool x94) := hl29
                        refine LW.gtr (letm_eq hx_x117) (ws 29 rfl (bk hl29 hb98)) rfl hl32 rfl ?_; intro x_ hx_; cases hx_
                        refine LW.nil ?_; intro a_ ha_
                        exact ⟨rfl, _, _, ha_, ⟨rfl, trivial⟩, Ke.refl, cx, s3, b36, s25, s28, trivial⟩
                      · intro o_ L_ F_ lab_ w_ ho_ hL_ hw_ hcl_ hb_ hr_ hq_; obtain rfl := Option.some.inj (ho_ : some _ = some o_); obtain ⟨cx, s3, b36, s25, s28, _⟩ := hq_
                        obtain ⟨q118, hl29, rfl, _⟩ := hr_ 14 (by decide) (hw_ 14 (by kernel_rfl))
                        replace hl29 : Gk.look F_ 29 = some (.bool x94) := hl29
                        obtain ⟨q119, hl33, rfl, _⟩ := hr_ 18 (by decide) (hw_ 18 (by kernel_rfl))
                        replace hl33 : Gk.look F_ 33 = some (.bool x117) := hl33
                        refine LW.pick_f wn rfl (bk hl29 hb98) hl33 ?_
                        refine LW.nil ?_; intro a_ ha_
                        exact ⟨rfl, _, _, ha_, ⟨rfl, trivial⟩, Ke.refl, cx, s3, b36, s25, s28, trivial⟩
                      · intro o_ L_ F_ lab_ w_ ho_ hL_ hw_ hcl_ hb_ hr_ hq_; obtain rfl := Option.some.inj (ho_ : some _ = some o_); obtain ⟨cx, s3, b36, s25, s28, _⟩ := hq_
                        obtain ⟨q120, hl34, rfl, _⟩ := hr_ 19 (by decide) (hw_ 19 (by kernel_rfl))
                        replace hl34 : Gk.look F_ 34 = some (.bool x117) := hl34
                        refine LW.move wn rfl hl34 ?_
                        refine LW.nil ?_; intro a_ ha_
                        exact ⟨rfl, _, _, ha_, ⟨rfl, trivial⟩, Ke.refl, cx, s3, b36, s25, s28, trivial⟩
                      · intro o_ L_ F_ lab_ w_ ho_ hL_ hw_ hcl_ hb_ hr_ hq_; obtain rfl := Option.some.inj (ho_ : some _ = some o_); obtain ⟨cx, s3, b36, s25, s28, _⟩ := hq_
                        have hl4 := hb_ 4 _ rfl
                        obtain ⟨q130, hl35, rfl, _⟩ := hr_ 20 (by decide) (hw_ 20 (by kernel_rfl))
                        replace hl35 : Gk.look F_ 35 = some (.bool x117) := hl35
                        refine LW.fldB 3 kFld_63_3 rfl (ws 35 rfl (bk hl35 hb121)) rfl hl4 ?_
                        refine LW.nil ?_; intro a_ ha_
                        exact ⟨rfl, _, _, ha_, ⟨rfl, trivial⟩, Ke.refl, cx, s3, b36, s25, s28, trivial⟩
                      · intro o_ L_ F_ lab_ w_ ho_ hL_ hw_ hcl_ hb_ hr_ hq_; obtain rfl := Option.some.inj (ho_ : some _ = some o_); obtain ⟨cx, s3, b36, s25, s28, _⟩ := hq_
                        obtain ⟨q131, hl36, rfl, _⟩ := hr_ 21 (by decide) (hw_ 21 (by kernel_rfl))
                        replace hl36 : Gk.look F_ 36 = some (.pointer (some ⟨g29, 3, none⟩)) := hl36
                        obtain ⟨q132, hl35, rfl, _⟩ := hr_ 20 (by decide) (hw_ 20 (by kernel_rfl))
                        replace hl35 : Gk.look F_ 35 = some (.bool x117) := hl35
                        refine LW.loadB1 b36 kOne_3 rfl (ws 35 rfl (bk hl35 hb121)) rfl hl36 ?_
                        refine LW.nil ?_; intro a_ ha_
                        exact ⟨rfl, _, _, ha_, ⟨rfl, trivial⟩, Ke.refl, cx, s3, b36, s25, s28, trivial⟩
                      · intro o_ L_ F_ lab_ w_ ho_ hL_ hw_ hcl_ hb_ hr_ hq_; obtain rfl := Option.some.inj (ho_ : some _ = some o_); obtain ⟨cx, s3, b36, s25, s28, _⟩ := hq_
                        obtain ⟨q133, hl37, rfl, _⟩ := hr_ 22 (by decide) (hw_ 22 (by kernel_rfl))
                        replace hl37 : Gk.look F_ 37 = some (.int .i64 x18.Until) := hl37
                        obtain ⟨q134, hl35, rfl, _⟩ := hr_ 20 (by decide) (hw_ 20 (by kernel_rfl))
                        replace hl35 : Gk.look F_ 35 = some (.bool x117) := hl35
                        refine LW.lss (letm_eq hx_x135) (ws 35 rfl (bk hl35 hb121)) rfl hl37 rfl ?_; intro x_ hx_; cases hx_
                        refine LW.nil ?_; intro a_ ha_
                        exact ⟨rfl, _, _, ha_, ⟨rfl, trivial⟩, Ke.refl, cx, s3, b36, s25, s28, trivial⟩
                      · intro o_ L_ F_ lab_ w_ ho_ hL_ hw_ hcl_ hb_ hr_ hq_; obtain rfl := Option.some.inj (ho_ : some _ = some o_); obtain ⟨cx, s3, b36, s25, s28, _⟩ := hq_
                        obtain ⟨q136, hl35, rfl, _⟩ := hr_ 20 (by decide) (hw_ 20 (by kernel_rfl))
                        replace hl35 : Gk.look F_ 35 = some (.bool x117) := hl35
                        obtain ⟨q137, hl38, rfl, _⟩ := hr_ 23 (by decide) (hw_ 23 (by kernel_rfl))
                        replace hl38 : Gk.look F_ 38 = some (.bool x135) := hl38
                        refine LW.pick_f wn rfl (bk hl35 hb121) hl38 ?_
                        refine LW.nil ?_; intro a_ ha_
                        exact ⟨rfl, _, _, ha_, ⟨rfl, trivial⟩, Ke.refl, cx, s3, b36, s25, s28, trivial⟩
                      · intro o_ L_ F_ lab_ w_ ho_ hL_ hw_ hcl_ hb_ hr_ hq_; obtain rfl := Option.some.inj (ho_ : some _ = some o_); obtain ⟨cx, s3, b36, s25, s28, _⟩ := hq_
                        obtain ⟨q138, hl39, rfl, _⟩ := hr_ 24 (by decide) (hw_ 24 (by kernel_rfl))
                        replace hl39 : Gk.look F_ 39 = some (.bool x135) := hl39
                        refine LW.move wn rfl hl39 ?_
                        refine LW.nil ?_; intro a_ ha_
                        exact ⟨rfl, _, _, ha_, ⟨rfl, trivial⟩, Ke.refl, cx, s3, b36, s25, s28, trivial⟩
                      · intro o_ L_ F_ lab_ w_ ho_ hL_ hw_ hcl_ hb_ hr_ hq_; obtain rfl := Option.some.inj (ho_ : some _ = some o_); obtain ⟨cx, s3, b36, s25, s28, _⟩ := hq_
                        have hl0 := hb_ 0 _ rfl
                        obtain ⟨q145, hl40, rfl, _⟩ := hr_ 25 (by decide) (hw_ 25 (by kernel_rfl))
                        replace hl40 : Gk.look F_ 40 = some (.bool x135) := hl40
                        refine LW.move (ws 40 rfl (bk hl40 hb139)) rfl hl0 ?_
                        refine LW.nil ?_; intro a_ ha_
                        exact ⟨rfl, _, _, ha_, ⟨rfl, trivial⟩, Ke.refl, cx, s3, b36, s25, s28, trivial⟩
                      · intro o_ L_ F_ lab_ w_ ho_ hL_ hw_ hcl_ hb_ hr_ hq_; obtain rfl := Option.some.inj (ho_ : some _ = some o_); obtain ⟨cx, s3, b36, s25, s28, _⟩ := hq_
                        have hl3 := hb_ 3 _ rfl
                        obtain ⟨q146, hl40, rfl, _⟩ := hr_ 25 (by decide) (hw_ 25 (by kernel_rfl))
                        replace hl40 : Gk.look F_ 40 = some (.bool x135) := hl40
                        refine LW.move (ws 40 rfl (bk hl40 hb139)) rfl hl3 ?_
                        refine LW.nil ?_; intro a_ ha_
                        exact ⟨rfl, _, _, ha_, ⟨rfl, trivial⟩, Ke.refl, cx, s3, b36, s25, s28, trivial⟩
                      · intro o_ L_ F_ lab_ w_ ho_ hL_ hw_ hcl_ hb_ hr_ hq_; obtain rfl := Option.some.inj (ho_ : some _ = some o_); obtain ⟨cx, s3, b36, s25, s28, _⟩ := hq_
                        obtain ⟨q147, hl41, rfl, _⟩ := hr_ 26 (by decide) (hw_ 26 (by kernel_rfl))
                        replace hl41 : Gk.look F_ 41 = some (.slice oa1 a0.length c2) := hl41
                        obtain ⟨q148, hl42, rfl, _⟩ := hr_ 27 (by decide) (hw_ 27 (by kernel_rfl))
                        replace hl42 : Gk.look F_ 42 = some (.int .i64 ((k16 : Nat) : Int)) := hl42
                        obtain ⟨q149, hl40, rfl, _⟩ := hr_ 25 (by decide) (hw_ 25 (by kernel_rfl))
                        replace hl40 : Gk.look F_ 40 = some (.bool x135) := hl40
                        refine LW.slice_h (bnd_ret hx_x150) s3 kSl_22 (ws 40 rfl (bk hl40 hb139)) rfl hl41 hl42 ?_; intro x_ oa151 c152 hx_ s153; cases hx_
                        refine LW.nil ?_; intro a_ ha_
                        exact ⟨rfl, _, _, ha_, ⟨oa151, c152, rfl, s153, trivial⟩, Ke.refl, cx, s3, b36, s25, s28, trivial⟩
                      · intro o_ L_ F_ lab_ w_ ho_ hL_ hw_ hcl_ hb_ hr_ hq_; obtain rfl := Option.some.inj (ho_ : some _ = some o_); obtain ⟨cx, s3, b36, s25, s28, _⟩ := hq_
                        have hl4 := hb_ 4 _ rfl
                        obtain ⟨q154, hl40, rfl, _⟩ := hr_ 25 (by decide) (hw_ 25 (by kernel_rfl))
                        replace hl40 : Gk.look F_ 40 = some (.bool x135) := hl40
                        refine LW.fldB 0 kFld_63_0 rfl (ws 40 rfl (bk hl40 hb139)) rfl hl4 ?_
                        refine LW.nil ?_; intro a_ ha_
                        exact ⟨rfl, _, _, ha_, ⟨rfl, trivial⟩, Ke.refl, cx, s3, b36, s25, s28, trivial⟩
                      · intro o_ L_ F_ lab_ w_ ho_ hL_ hw_ hcl_ hb_ hr_ hq_; obtain rfl := Option.some.inj (ho_ : some _ = some o_); obtain ⟨cx, s3, b36, s25, s28, _⟩ := hq_
                        obtain ⟨q155, hl44, rfl, _⟩ := hr_ 29 (by decide) (hw_ 29 (by kernel_rfl))
                        replace hl44 : Gk.look F_ 44 = some (.pointer (some ⟨g29, 0, none⟩)) := hl44
                        obtain ⟨q156, hl40, rfl, _⟩ := hr_ 25 (by decide) (hw_ 25 (by kernel_rfl))
                        replace hl40 : Gk.look F_ 40 = some (.bool x135) := hl40
                        refine LW.loadB1 b36 kOne_3 rfl (ws 40 rfl (bk hl40 hb139)) rfl hl44 ?_
                        refine LW.nil ?_; intro a_ ha_
                        exact ⟨rfl, _, _, ha_, ⟨rfl, trivial⟩, Ke.refl, cx, s3, b36, s25, s28, trivial⟩
                      · intro o_ L_ F_ lab_ w_ ho_ hL_ hw_ hcl_ hb_ hr_ hq_; obtain rfl := Option.some.inj (ho_ : some _ = some o_); obtain ⟨cx, s3, b36, s25, s28, _⟩ := hq_
                        have hl4 := hb_ 4 _ rfl
                        obtain ⟨q157, hl40, rfl, _⟩ := hr_ 25 (by decide) (hw_ 25 (by kernel_rfl))
                        replace hl40 : Gk.look F_ 40 = some (.bool x135) := hl40
                        refine LW.fldB 1 kFld_63_1 rfl (ws 40 rfl (bk hl40 hb139)) rfl hl4 ?_
                        refine LW.nil ?_; intro a_ ha_
                        exact ⟨rfl, _, _, ha_, ⟨rfl, trivial⟩, Ke.refl, cx, s3, b36, s25, s28, trivial⟩
                      · intro o_ L_ F_ lab_ w_ ho_ hL_ hw_ hcl_ hb_ hr_ hq_; obtain rfl := Option.some.inj (ho_ : some _ = some o_); obtain ⟨cx, s3, b36, s25, s28, _⟩ := hq_
                        obtain ⟨q158, hl46, rfl, _⟩ := hr_ 31 (by decide) (hw_ 31 (by kernel_rfl))
                        replace hl46 : Gk.look F_ 46 = some (.pointer (some ⟨g29, 1, none⟩)) := hl46
                        obtain ⟨q159, hl40, rfl, _⟩ := hr_ 25 (by decide) (hw_ 25 (by kernel_rfl))
                        replace hl40 : Gk.look F_ 40 = some (.bool x135) := hl40
                        refine LW.loadB1 b36 kOne_24 rfl (ws 40 rfl (bk hl40 hb139)) rfl hl46 ?_
                        refine LW.nil ?_; intro a_ ha_
                        exact ⟨rfl, _, _, ha_, ⟨rfl, trivial⟩, Ke.refl, cx, s3, b36, s25, s28, trivial⟩
                      · intro o_ L_ F_ lab_ w_ ho_ hL_ hw_ hcl_ hb_ hr_ hq_; obtain rfl := Option.some.inj (ho_ : some _ = some o_); obtain ⟨cx, s3, b36, s25, s28, _⟩ := hq_
                        obtain ⟨q163, hl43, oa160, c161, rfl, s162, _⟩ := hr_ 28 (by decide) (hw_ 28 (by kernel_rfl))
                        replace hl43 : Gk.look F_ 43 = some (.slice oa160 x150.length c161) := hl43
                        obtain ⟨q164, hl45, rfl, _⟩ := hr_ 30 (by decide) (hw_ 30 (by kernel_rfl))
                        replace hl45 : Gk.look F_ 45 = some (.int .i64 x18.Peer) := hl45
                        obtain ⟨q165, hl47, rfl, _⟩ := hr_ 32 (by decide) (hw_ 32 (by kernel_rfl))
                        replace hl47 : Gk.look F_ 47 = some (.slice oa23 x18.Key.length c24) := hl47
                        obtain ⟨q166, hl40, rfl, _⟩ := hr_ 25 (by decide) (hw_ 25 (by kernel_rfl))
                        replace hl40 : Gk.look F_ 40 = some (.bool x135) := hl40
                        refine LW.call kFn_29 (c_block_find hx_y167 cx.top s162 s25) (ws 40 rfl (bk hl40 hb139)) rfl (evs_cons hl43 (evs_cons hl45 (evs_cons hl47 evs_nil))) ?_
                        rintro _ w168 ⟨rfl, e169, _⟩; refine ⟨_, rfl, ?_⟩
                        replace cx := cx.step e169 rfl
                        replace s3 := s3.step e169
                        replace b36 := b36.step e169 rfl
                        replace s25 := s25.step e169
                        replace s28 := s28.step e169
                        replace s162 := s162.step e169
                        refine LW.nil ?_; intro a_ ha_
                        exact ⟨rfl, _, _, ha_, ⟨rfl, trivial⟩, e169.ke0, cx, s3, b36, s25, s28, trivial⟩
                      · intro o_ L_ F_ lab_ w_ ho_ hL_ hw_ hcl_ hb_ hr_ hq_; obtain rfl := Option.some.inj (ho_ : some _ = some o_); obtain ⟨cx, s3, b36, s25, s28, _⟩ := hq_
                        obtain ⟨q171, hl48, rfl, _⟩ := hr_ 33 (by decide) (hw_ 33 (by kernel_rfl))
                        replace hl48 : Gk.look F_ 48 = some (.int .i64 y167) := hl48
                        obtain ⟨q172, hl40, rfl, _⟩ := hr_ 25 (by decide) (hw_ 25 (by kernel_rfl))
                        replace hl40 : Gk.look F_ 40 = some (.bool x135) := hl40
                        refine LW.geq (letm_eq hx_x173) (ws 40 rfl (bk hl40 hb139)) rfl hl48 rfl ?_; intro x_ hx_; cases hx_
                        refine LW.nil ?_; intro a_ ha_
                        exact ⟨rfl, _, _, ha_, ⟨rfl, trivial⟩, Ke.refl, cx, s3, b36, s25, s28, trivial⟩
                      · intro o_ L_ F_ lab_ w_ ho_ hL_ hw_ hcl_ hb_ hr_ hq_; obtain rfl := Option.some.inj (ho_ : some _ = some o_); obtain ⟨cx, s3, b36, s25, s28, _⟩ := hq_
                        obtain ⟨q174, hl40, rfl, _⟩ := hr_ 25 (by decide) (hw_ 25 (by kernel_rfl))
                        replace hl40 : Gk.look F_ 40 = some (.bool x135) := hl40
                        obtain ⟨q175, hl49, rfl, _⟩ := hr_ 34 (by decide) (hw_ 34 (by kernel_rfl))
                        replace hl49 : Gk.look F_ 49 = some (.bool x173) := hl49
                        refine LW.pick_f wn rfl (bk hl40 hb139) hl49 ?_
                        refine LW.nil ?_; intro a_ ha_
                        exact ⟨rfl, _, _, ha_, ⟨rfl, trivial⟩, Ke.refl, cx, s3, b36, s25, s28, trivial⟩
                    · intro F_ lab_ w_ hb_ hr_ hq_; obtain ⟨cx, s3, b36, s25, s28, _⟩ := hq_
                      obtain ⟨q178, hl50, rfl, _⟩ := hr_ 35 (by decide)
                      refine LW.sub (G := [(0, .slice oa1 a0.length c2), (3, .int .i64 ((k16 : Nat) : Int)), (4, .pointer (some ⟨g29, 0, none⟩)), (8, .slice oa1 a0.length c2), (9, .int .i64 (a0.length : Int)), (10, .int .i64 ((k16 : Nat) : Int)), (50, .bool x173)]) ⟨hb_ 0 _ rfl, hb_ 3 _ rfl, hb_ 4 _ rfl, hb_ 8 _ rfl, hb_ 9 _ rfl, hb_ 10 _ rfl, hl50, trivial⟩ ?_
                      simp only [List.drop_succ_cons, List.drop_nil, List.drop_zero]
                      refine LW.nil ?_
                      obtain rfl := Option.some.inj hm
                      refine EW.sub (G := [(0, .slice oa1 a0.length c2), (8, .slice oa1 a0.length c2), (9, .int .i64 (a0.length : Int)), (10, .int .i64 ((k16 : Nat) : Int)), (50, .bool x173)]) ⟨rfl, rfl, rfl, rfl, rfl, trivial⟩ ?_
                      exact EW.join_n ⟨_, rfl, cx, s3, trivial⟩
        · rintro _ w39 ⟨lab40, rfl, cx, s3, _⟩
          have hm := hm_; clear hm_
          refine EW.seq_n ?_
          refine CW.cond (b := y37) rfl (fun hb179 => ?_) (fun hb179 => ?_)
          · replace hm := cond_t hm hb179
            refine CW.seq ?_
            refine CW.region ?_
            refine LW.assign wn rfl rfl ?_
            refine LW.nil ?_
            refine EW.seq_n ?_
            refine CW.ret ?_
            refine EW.block_r ?_
            refine EW.seq_r ?_
            refine EW.join_r ?_
            refine EW.block_r ?_
            refine EW.join_r ?_
            obtain rfl := Option.some.inj hm; have hm := hs9 _ rfl
            refine EW.seq_r ?_
            obtain rfl := Option.some.inj hm
            exact EW.ret1 rfl rfl ⟨rfl, (cx.ste t), trivial⟩
          · replace hm := cond_f hm hb179
            refine CW.skip ?_
            refine EW.block_n ?_
            refine EW.seq_n ?_
            refine CW.region ?_
            refine LW.add_lit (w64_succ hlt2 s3.le) wn rfl rfl rfl ?_
            refine LW.move wn rfl rfl ?_
            refine LW.nil ?_
            refine EW.sub (G := [(0, .slice oa1 a0.length c2), (8, .slice oa1 a0.length c2), (9, .int .i64 (a0.length : Int)), (10, .int .i64 ((k16 + 1 : Nat) : Int))]) ⟨rfl, rfl, rfl, rfl, trivial⟩ ?_
            exact EW.join_n ⟨_, Nat.lt_succ_self _, _, k16 + 1, rem17, rfl, hd, rfl, cx, s3, hm⟩
    · rintro _ w11 ⟨y6, lab12, hsr_, rfl, cx, _⟩
      have hm := hs10 _ hsr_; clear hsr_
      refine EW.seq_n ?_
      refine CW.seq ?_
      refine CW.region ?_
      refine LW.assign wn rfl rfl ?_
      refine LW.nil ?_
      refine EW.seq_n ?_
      refine CW.ret ?_
      obtain rfl := Option.some.inj hm
      exact EW.ret1 rfl rfl ⟨rfl, (cx.ste t), trivial⟩
end Go.Proofs.Ytaefnnamjphieaa
