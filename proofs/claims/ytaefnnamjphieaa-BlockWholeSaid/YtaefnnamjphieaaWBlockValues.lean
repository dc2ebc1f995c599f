/-
  The law BlockValues: its model, and that it computes it. No condition but that the model has a value.
-/
import Derived.Test.YtaefnnamjphieaaPCoreseclaw18
namespace Go.Proofs.Ytaefnnamjphieaa
open Go.Gk Go.RowKit
set_option linter.unusedVariables false in
def m_coreseclaw18_BlockValues_l1  : List S_api_Block → Nat → Option (Bool ⊕ Unit)
    | [], k66 => some (Sum.inr ())
    | x68 :: rem67, k66 => bnd (m_block_Value (S_api_Block.mk x68.Num x68.More x68.Size)) fun y81 =>
  bnd (m_coresecref18_Value (S_api_Block.mk x68.Num x68.More x68.Size)) fun y89 =>
  bnd (letm (y81.1 != y89.1) fun x101 =>
  (cond x101 (some (true))
   (letm (y81.2 != y89.2) fun x104 =>
  some (x104))) : Option (Bool)) fun y97 =>
  (cond y97 (some (Sum.inl false))
   (m_coreseclaw18_BlockValues_l1  rem67 (k66 + 1)))
set_option linter.unusedVariables false in
def m_coreseclaw18_BlockValues_l2  : List (List UInt8) → Nat → Option (Bool ⊕ Unit)
    | [], k135 => some (Sum.inr ())
    | x137 :: rem136, k135 => bnd (m_block_Parse x137) fun y145 =>
  bnd (m_coresecref18_Parse x137) fun y158 =>
  bnd (letm (!((y145.1.Num == y158.1.Num) && ((y145.1.More == y158.1.More) && ((y145.1.Size == y158.1.Size) && true)))) fun x175 =>
  (cond x175 (some (true))
   (letm (y145.2 != y158.2) fun x178 =>
  some (x178))) : Option (Bool)) fun y171 =>
  (cond y171 (some (Sum.inl false))
   (m_coreseclaw18_BlockValues_l2  rem136 (k135 + 1)))
set_option linter.unusedVariables false in
def m_coreseclaw18_BlockValues (a0 : S_api_Block) (a1 : List UInt8) (a2 : Int) (a3 : Int) : Option (Bool) :=
  bnd (m_coresecmake_Mod a2 1048578) fun y10 =>
  letm (w64 (y10 - 1)) fun x15 =>
  bnd (m_coresecmake_Mod a3 9) fun y18 =>
  letm (w64 (y18 - 1)) fun x23 =>
  bnd (m_coresecmake_Mod a2 2) fun y28 =>
  letm (w64 (1048575 + y28)) fun x33 =>
  bndS (m_coreseclaw18_BlockValues_l1  ([(S_api_Block.mk a0.Num a0.More a0.Size), (S_api_Block.mk x15 a0.More x23), (S_api_Block.mk x33 false 6)]) 0 : Option (Bool ⊕ Unit)) (fun q => q) fun y56 =>
  bnd (m_coresecmake_Mod a3 5) fun y106 =>
  bnd (m_coresecmake_Some a2 y106) fun y111 =>
  bndS (m_coreseclaw18_BlockValues_l2  ([a1, y111]) 0 : Option (Bool ⊕ Unit)) (fun q => q) fun y125 =>
  bnd (m_coreseclaw18_awake ) fun y180 =>
  some y180
set_option maxRecDepth 100000 in
set_option maxHeartbeats 2000000 in
theorem c_coreseclaw18_BlockValues {lab : Lab} {w : World} {a0 : S_api_Block} {a1 : List UInt8} {a2 : Int} {a3 : Int} {r : Bool} (hm : m_coreseclaw18_BlockValues a0 a1 a2 a3 = some r) (t : Top lab w) {oa1 : Option Addr} {c2 : Nat} (s3 : SL Rep.u8 lab w oa1 c2 a1) : Calls Try.prog 8 [.agg ([.int .i64 a0.Num, .bool a0.More, .int .i64 a0.Size] : List Value).toArray, .slice oa1 a1.length c2, .int .i64 a2, .int .i64 a3].toArray w (fun e w' => e = .returned (.bool r) ∧ Ste lab 0 w lab w' ∧ True) := by
  refine enter Try.func8 rfl 93 rfl rfl ?_
  have cx := Cx.start t
  replace s3 := s3.keep Keeps.lin
  refine CW.sub (G := [(0, .agg ([.int .i64 a0.Num, .bool a0.More, .int .i64 a0.Size] : List Value).toArray), (1, .slice oa1 a1.length c2), (2, .int .i64 a2), (3, .int .i64 a3)]) ⟨rfl, rfl, rfl, rfl, trivial⟩ ?_
  unfold m_coreseclaw18_BlockValues at hm
  refine CW.seq ?_
  refine CW.region ?_
  refine LW.box 14 [.int .i64 a0.Num, .bool a0.More, .int .i64 a0.Size] rfl rfl cx.top wn rfl ?_
  intro g4 lab5 w6 e7 b8
  replace cx := cx.step e7 rfl
  replace s3 := s3.step e7
  clear e7
  refine LW.assign wn rfl rfl ?_
  refine LW.nil ?_
  refine EW.seq_n ?_
  refine CW.seq ?_
  refine CW.seq ?_
  obtain ⟨y10, hx_y10, hm_⟩ := bnd_some hm; clear hm; have hm := hm_; clear hm_
  obtain ⟨x15, hx_x15, hm_⟩ := letm_some hm; clear hm; have hm := hm_; clear hm_
  obtain ⟨y18, hx_y18, hm_⟩ := bnd_some hm; clear hm; have hm := hm_; clear hm_
  obtain ⟨x23, hx_x23, hm_⟩ := letm_some hm; clear hm; have hm := hm_; clear hm_
  obtain ⟨y28, hx_y28, hm_⟩ := bnd_some hm; clear hm; have hm := hm_; clear hm_
  obtain ⟨x33, hx_x33, hm_⟩ := letm_some hm; clear hm; have hm := hm_; clear hm_
  refine CW.sub (G := [(1, .slice oa1 a1.length c2), (2, .int .i64 a2), (3, .int .i64 a3), (4, .pointer (some ⟨g4, 0, none⟩))]) ⟨rfl, rfl, rfl, rfl, trivial⟩ ?_
  refine CW.drawL (fun i_ => []) (fun i_ => by (try dsimp only); (repeat' split) <;> rfl) kMix_ 17 (by kernel_rfl) cx.top ?_
  intro w48 e49
  replace cx := cx.step e49 rfl
  replace s3 := s3.step e49
  replace b8 := b8.step e49 rfl
  clear e49
  refine ⟨[(fun L_ lab_ w_ v_ => v_ = .agg ([.int .i64 a0.Num, .bool a0.More, .int .i64 a0.Size] : List Value).toArray ∧ True),
    (fun L_ lab_ w_ v_ => v_ = .int .i64 a2 ∧ True),
    (fun L_ lab_ w_ v_ => v_ = .int .i64 y10 ∧ True),
    (fun L_ lab_ w_ v_ => v_ = .int .i64 x15 ∧ True),
    (fun L_ lab_ w_ v_ => v_ = .pointer (some ⟨g4, 1, none⟩) ∧ True),
    (fun L_ lab_ w_ v_ => v_ = .bool a0.More ∧ True),
    (fun L_ lab_ w_ v_ => v_ = .int .i64 a3 ∧ True),
    (fun L_ lab_ w_ v_ => v_ = .int .i64 y18 ∧ True),
    (fun L_ lab_ w_ v_ => v_ = .int .i64 x23 ∧ True),
    (fun L_ lab_ w_ v_ => v_ = .agg ([.int .i64 x15, .bool a0.More, .int .i64 x23] : List Value).toArray ∧ True),
    (fun L_ lab_ w_ v_ => v_ = .int .i64 a2 ∧ True),
    (fun L_ lab_ w_ v_ => v_ = .int .i64 y28 ∧ True),
    (fun L_ lab_ w_ v_ => v_ = .int .i64 x33 ∧ True),
    (fun L_ lab_ w_ v_ => v_ = .agg ([.int .i64 x33, .bool false, .int .i64 6] : List Value).toArray ∧ True),
    (fun L_ lab_ w_ v_ => ∃ (oa38 : Option Addr) (c39 : Nat), v_ = .slice oa38 ([(S_api_Block.mk a0.Num a0.More a0.Size), (S_api_Block.mk x15 a0.More x23), (S_api_Block.mk x33 false 6)]).length c39 ∧ SL R_api_Block lab_ w_ oa38 c39 ([(S_api_Block.mk a0.Num a0.More a0.Size), (S_api_Block.mk x15 a0.More x23), (S_api_Block.mk x33 false 6)]) ∧ True),
    (fun L_ lab_ w_ v_ => v_ = .int .i64 (([(S_api_Block.mk a0.Num a0.More a0.Size), (S_api_Block.mk x15 a0.More x23), (S_api_Block.mk x33 false 6)]).length : Int) ∧ True),
    (fun L_ lab_ w_ v_ => v_ = .int .i64 0 ∧ True)], (fun L_ lab_ w_ => Cx [] w lab w_ lab_ ∧ SL Rep.u8 lab_ w_ oa1 c2 a1 ∧ Box lab_ w_ 14 g4 26 [.int .i64 a0.Num, .bool a0.More, .int .i64 a0.Size] ∧ True), ?_, ⟨cx, s3, b8, trivial⟩, ?_, ?_⟩
  · exact ⟨by rintro i_ L_ lab_ w_ lab2_ w2_ v_ hne_ hd_ hk_ hp_ ⟨hv_, _⟩; exact ⟨hv_, trivial⟩, by rintro i_ L_ lab_ w_ lab2_ w2_ v_ hne_ hd_ hk_ hp_ ⟨hv_, _⟩; exact ⟨hv_, trivial⟩, by rintro i_ L_ lab_ w_ lab2_ w2_ v_ hne_ hd_ hk_ hp_ ⟨hv_, _⟩; exact ⟨hv_, trivial⟩, by rintro i_ L_ lab_ w_ lab2_ w2_ v_ hne_ hd_ hk_ hp_ ⟨hv_, _⟩; exact ⟨hv_, trivial⟩, by rintro i_ L_ lab_ w_ lab2_ w2_ v_ hne_ hd_ hk_ hp_ ⟨hv_, _⟩; exact ⟨hv_, trivial⟩, by rintro i_ L_ lab_ w_ lab2_ w2_ v_ hne_ hd_ hk_ hp_ ⟨hv_, _⟩; exact ⟨hv_, trivial⟩, by rintro i_ L_ lab_ w_ lab2_ w2_ v_ hne_ hd_ hk_ hp_ ⟨hv_, _⟩; exact ⟨hv_, trivial⟩, by rintro i_ L_ lab_ w_ lab2_ w2_ v_ hne_ hd_ hk_ hp_ ⟨hv_, _⟩; exact ⟨hv_, trivial⟩, by rintro i_ L_ lab_ w_ lab2_ w2_ v_ hne_ hd_ hk_ hp_ ⟨hv_, _⟩; exact ⟨hv_, trivial⟩, by rintro i_ L_ lab_ w_ lab2_ w2_ v_ hne_ hd_ hk_ hp_ ⟨hv_, _⟩; exact ⟨hv_, trivial⟩, by rintro i_ L_ lab_ w_ lab2_ w2_ v_ hne_ hd_ hk_ hp_ ⟨hv_, _⟩; exact ⟨hv_, trivial⟩, by rintro i_ L_ lab_ w_ lab2_ w2_ v_ hne_ hd_ hk_ hp_ ⟨hv_, _⟩; exact ⟨hv_, trivial⟩, by rintro i_ L_ lab_ w_ lab2_ w2_ v_ hne_ hd_ hk_ hp_ ⟨hv_, _⟩; exact ⟨hv_, trivial⟩, by rintro i_ L_ lab_ w_ lab2_ w2_ v_ hne_ hd_ hk_ hp_ ⟨hv_, _⟩; exact ⟨hv_, trivial⟩, by rintro i_ L_ lab_ w_ lab2_ w2_ v_ hne_ hd_ hk_ hp_ ⟨oa38, c39, hv_, s41, _⟩; exact ⟨oa38, c39, hv_, (s41.keep hp_), trivial⟩, by rintro i_ L_ lab_ w_ lab2_ w2_ v_ hne_ hd_ hk_ hp_ ⟨hv_, _⟩; exact ⟨hv_, trivial⟩, by rintro i_ L_ lab_ w_ lab2_ w2_ v_ hne_ hd_ hk_ hp_ ⟨hv_, _⟩; exact ⟨hv_, trivial⟩, trivial⟩
  · refine (ob_succ (ob_succ (ob_succ (ob_succ (ob_succ (ob_succ (ob_succ (ob_succ (ob_succ (ob_succ (ob_succ (ob_succ (ob_succ (ob_succ (ob_succ (ob_succ (ob_succ ob_nil ?_) ?_) ?_) ?_) ?_) ?_) ?_) ?_) ?_) ?_) ?_) ?_) ?_) ?_) ?_) ?_) ?_)
    · intro o_ L_ F_ lab_ w_ ho_ hL_ hw_ hcl_ hb_ hr_ hq_; obtain rfl := Option.some.inj (ho_ : some _ = some o_); obtain ⟨cx, s3, b8, _⟩ := hq_
      have hl4 := hb_ 4 _ rfl
      refine LW.loadBn [.int .i64 a0.Num, .bool a0.More, .int .i64 a0.Size] b8 kAgg_26 rfl rfl wn rfl hl4 ?_
      refine LW.nil ?_; intro a_ ha_
      exact ⟨rfl, _, _, ha_, ⟨rfl, trivial⟩, Ke.refl, cx, s3, b8, trivial⟩
    · exact ob_moveb (v := .int .i64 a2) rfl (fun _ h_ => h_ _ _ rfl) rfl (fun _ _ _ => ⟨rfl, trivial⟩) (fun _ _ _ h_ => h_)
    · intro o_ L_ F_ lab_ w_ ho_ hL_ hw_ hcl_ hb_ hr_ hq_; obtain rfl := Option.some.inj (ho_ : some _ = some o_); obtain ⟨cx, s3, b8, _⟩ := hq_
      obtain ⟨q9, hl22, rfl, _⟩ := hr_ 1 (by decide) (hw_ 1 (by kernel_rfl))
      replace hl22 : Gk.look F_ 22 = some (.int .i64 a2) := hl22
      refine LW.call kFn_13 (c_coresecmake_Mod hx_y10 cx.top) wn rfl (evs_cons hl22 (evs_cons rfl evs_nil)) ?_
      rintro _ w11 ⟨rfl, e12, _⟩; refine ⟨_, rfl, ?_⟩
      replace cx := cx.step e12 rfl
      replace s3 := s3.step e12
      replace b8 := b8.step e12 rfl
      refine LW.nil ?_; intro a_ ha_
      exact ⟨rfl, _, _, ha_, ⟨rfl, trivial⟩, e12.ke0, cx, s3, b8, trivial⟩
    · intro o_ L_ F_ lab_ w_ ho_ hL_ hw_ hcl_ hb_ hr_ hq_; obtain rfl := Option.some.inj (ho_ : some _ = some o_); obtain ⟨cx, s3, b8, _⟩ := hq_
      obtain ⟨q14, hl23, rfl, _⟩ := hr_ 2 (by decide) (hw_ 2 (by kernel_rfl))
      replace hl23 : Gk.look F_ 23 = some (.int .i64 y10) := hl23
      refine LW.sub' (letm_eq hx_x15) wn rfl hl23 rfl ?_; intro x_ hx_; cases hx_
      refine LW.nil ?_; intro a_ ha_
      exact ⟨rfl, _, _, ha_, ⟨rfl, trivial⟩, Ke.refl, cx, s3, b8, trivial⟩
    · intro o_ L_ F_ lab_ w_ ho_ hL_ hw_ hcl_ hb_ hr_ hq_; obtain rfl := Option.some.inj (ho_ : some _ = some o_); obtain ⟨cx, s3, b8, _⟩ := hq_
      have hl4 := hb_ 4 _ rfl
      refine LW.fldB 1 kFld_26_1 rfl wn rfl hl4 ?_
      refine LW.nil ?_; intro a_ ha_
      exact ⟨rfl, _, _, ha_, ⟨rfl, trivial⟩, Ke.refl, cx, s3, b8, trivial⟩
    · intro o_ L_ F_ lab_ w_ ho_ hL_ hw_ hcl_ hb_ hr_ hq_; obtain rfl := Option.some.inj (ho_ : some _ = some o_); obtain ⟨cx, s3, b8, _⟩ := hq_
      obtain ⟨q16, hl25, rfl, _⟩ := hr_ 4 (by decide) (hw_ 4 (by kernel_rfl))
      replace hl25 : Gk.look F_ 25 = some (.pointer (some ⟨g4, 1, none⟩)) := hl25
      refine LW.loadB1 b8 kOne_4 rfl wn rfl hl25 ?_
      refine LW.nil ?_; intro a_ ha_
      exact ⟨rfl, _, _, ha_, ⟨rfl, trivial⟩, Ke.refl, cx, s3, b8, trivial⟩
    · exact ob_moveb (v := .int .i64 a3) rfl (fun _ h_ => h_ _ _ rfl) rfl (fun _ _ _ => ⟨rfl, trivial⟩) (fun _ _ _ h_ => h_)
    · intro o_ L_ F_ lab_ w_ ho_ hL_ hw_ hcl_ hb_ hr_ hq_; obtain rfl := Option.some.inj (ho_ : some _ = some o_); obtain ⟨cx, s3, b8, _⟩ := hq_
      obtain ⟨q17, hl27, rfl, _⟩ := hr_ 6 (by decide) (hw_ 6 (by kernel_rfl))
      replace hl27 : Gk.look F_ 27 = some (.int .i64 a3) := hl27
      refine LW.call kFn_13 (c_coresecmake_Mod hx_y18 cx.top) wn rfl (evs_cons hl27 (evs_cons rfl evs_nil)) ?_
      rintro _ w19 ⟨rfl, e20, _⟩; refine ⟨_, rfl, ?_⟩
      replace cx := cx.step e20 rfl
      replace s3 := s3.step e20
      replace b8 := b8.step e20 rfl
      refine LW.nil ?_; intro a_ ha_
      exact ⟨rfl, _, _, ha_, ⟨rfl, trivial⟩, e20.ke0, cx, s3, b8, trivial⟩
    · intro o_ L_ F_ lab_ w_ ho_ hL_ hw_ hcl_ hb_ hr_ hq_; obtain rfl := Option.some.inj (ho_ : some _ = some o_); obtain ⟨cx, s3, b8, _⟩ := hq_
      obtain ⟨q22, hl28, rfl, _⟩ := hr_ 7 (by decide) (hw_ 7 (by kernel_rfl))
      replace hl28 : Gk.look F_ 28 = some (.int .i64 y18) := hl28
      refine LW.sub' (letm_eq hx_x23) wn rfl hl28 rfl ?_; intro x_ hx_; cases hx_
      refine LW.nil ?_; intro a_ ha_
      exact ⟨rfl, _, _, ha_, ⟨rfl, trivial⟩, Ke.refl, cx, s3, b8, trivial⟩
    · intro o_ L_ F_ lab_ w_ ho_ hL_ hw_ hcl_ hb_ hr_ hq_; obtain rfl := Option.some.inj (ho_ : some _ = some o_); obtain ⟨cx, s3, b8, _⟩ := hq_
      obtain ⟨q24, hl24, rfl, _⟩ := hr_ 3 (by decide) (hw_ 3 (by kernel_rfl))
      replace hl24 : Gk.look F_ 24 = some (.int .i64 x15) := hl24
      obtain ⟨q25, hl26, rfl, _⟩ := hr_ 5 (by decide) (hw_ 5 (by kernel_rfl))
      replace hl26 : Gk.look F_ 26 = some (.bool a0.More) := hl26
      obtain ⟨q26, hl29, rfl, _⟩ := hr_ 8 (by decide) (hw_ 8 (by kernel_rfl))
      replace hl29 : Gk.look F_ 29 = some (.int .i64 x23) := hl29
      refine LW.build (vs := [(0, .int .i64 x15), (1, .bool a0.More), (2, .int .i64 x23)]) (cs := [.int .i64 x15, .bool a0.More, .int .i64 x23]) (mp_cons hl24 (mp_cons hl26 (mp_cons hl29 mp_nil))) ((kBuilt_26 _).trans rfl) wn rfl ?_
      refine LW.nil ?_; intro a_ ha_
      exact ⟨rfl, _, _, ha_, ⟨rfl, trivial⟩, Ke.refl, cx, s3, b8, trivial⟩
    · exact ob_moveb (v := .int .i64 a2) rfl (fun _ h_ => h_ _ _ rfl) rfl (fun _ _ _ => ⟨rfl, trivial⟩) (fun _ _ _ h_ => h_)
    · intro o_ L_ F_ lab_ w_ ho_ hL_ hw_ hcl_ hb_ hr_ hq_; obtain rfl := Option.some.inj (ho_ : some _ = some o_); obtain ⟨cx, s3, b8, _⟩ := hq_
      obtain ⟨q27, hl31, rfl, _⟩ := hr_ 10 (by decide) (hw_ 10 (by kernel_rfl))
      replace hl31 : Gk.look F_ 31 = some (.int .i64 a2) := hl31
      refine LW.call kFn_13 (c_coresecmake_Mod hx_y28 cx.top) wn rfl (evs_cons hl31 (evs_cons rfl evs_nil)) ?_
      rintro _ w29 ⟨rfl, e30, _⟩; refine ⟨_, rfl, ?_⟩
      replace cx := cx.step e30 rfl
      replace s3 := s3.step e30
      replace b8 := b8.step e30 rfl
      refine LW.nil ?_; intro a_ ha_
      exact ⟨rfl, _, _, ha_, ⟨rfl, trivial⟩, e30.ke0, cx, s3, b8, trivial⟩
    · intro o_ L_ F_ lab_ w_ ho_ hL_ hw_ hcl_ hb_ hr_ hq_; obtain rfl := Option.some.inj (ho_ : some _ = some o_); obtain ⟨cx, s3, b8, _⟩ := hq_
      obtain ⟨q32, hl32, rfl, _⟩ := hr_ 11 (by decide) (hw_ 11 (by kernel_rfl))
      replace hl32 : Gk.look F_ 32 = some (.int .i64 y28) := hl32
      refine LW.add (letm_eq hx_x33) wn rfl rfl hl32 ?_; intro x_ hx_; cases hx_
      refine LW.nil ?_; intro a_ ha_
      exact ⟨rfl, _, _, ha_, ⟨rfl, trivial⟩, Ke.refl, cx, s3, b8, trivial⟩
    · intro o_ L_ F_ lab_ w_ ho_ hL_ hw_ hcl_ hb_ hr_ hq_; obtain rfl := Option.some.inj (ho_ : some _ = some o_); obtain ⟨cx, s3, b8, _⟩ := hq_
      obtain ⟨q34, hl33, rfl, _⟩ := hr_ 12 (by decide) (hw_ 12 (by kernel_rfl))
      replace hl33 : Gk.look F_ 33 = some (.int .i64 x33) := hl33
      refine LW.build (vs := [(0, .int .i64 x33), (2, .int .i64 6)]) (cs := [.int .i64 x33, .bool false, .int .i64 6]) (mp_cons hl33 (mp_cons rfl mp_nil)) ((kBuilt_26 _).trans rfl) wn rfl ?_
      refine LW.nil ?_; intro a_ ha_
      exact ⟨rfl, _, _, ha_, ⟨rfl, trivial⟩, Ke.refl, cx, s3, b8, trivial⟩
    · intro o_ L_ F_ lab_ w_ ho_ hL_ hw_ hcl_ hb_ hr_ hq_; obtain rfl := Option.some.inj (ho_ : some _ = some o_); obtain ⟨cx, s3, b8, _⟩ := hq_
      obtain ⟨q35, hl21, rfl, _⟩ := hr_ 0 (by decide) (hw_ 0 (by kernel_rfl))
      replace hl21 : Gk.look F_ 21 = some (.agg ([.int .i64 a0.Num, .bool a0.More, .int .i64 a0.Size] : List Value).toArray) := hl21
      obtain ⟨q36, hl30, rfl, _⟩ := hr_ 9 (by decide) (hw_ 9 (by kernel_rfl))
      replace hl30 : Gk.look F_ 30 = some (.agg ([.int .i64 x15, .bool a0.More, .int .i64 x23] : List Value).toArray) := hl30
      obtain ⟨q37, hl34, rfl, _⟩ := hr_ 13 (by decide) (hw_ 13 (by kernel_rfl))
      replace hl34 : Gk.look F_ 34 = some (.agg ([.int .i64 x33, .bool false, .int .i64 6] : List Value).toArray) := hl34
      refine LW.buildSlice (ρ := R_api_Block) (vs := [(0, .agg ([.int .i64 a0.Num, .bool a0.More, .int .i64 a0.Size] : List Value).toArray), (1, .agg ([.int .i64 x15, .bool a0.More, .int .i64 x23] : List Value).toArray), (2, .agg ([.int .i64 x33, .bool false, .int .i64 6] : List Value).toArray)]) (css := [[.int .i64 a0.Num, .bool a0.More, .int .i64 a0.Size], [.int .i64 x15, .bool a0.More, .int .i64 x23], [.int .i64 x33, .bool false, .int .i64 6]]) (xs := [(S_api_Block.mk a0.Num a0.More a0.Size), (S_api_Block.mk x15 a0.More x23), (S_api_Block.mk x33 false 6)]) (mp_cons hl21 (mp_cons hl30 (mp_cons hl34 mp_nil))) kSl_53 kZero_26 (by kernel_rfl) rfl rfl ⟨⟨rfl, trivial⟩, ⟨rfl, trivial⟩, ⟨rfl, trivial⟩, trivial⟩ cx.top wn rfl ?_
      intro oa38 c39 lab42 w43 e40 s41
      replace cx := cx.step e40 rfl
      replace s3 := s3.step e40
      replace b8 := b8.step e40 rfl
      refine LW.nil ?_; intro a_ ha_
      exact ⟨rfl, _, _, ha_, ⟨oa38, c39, rfl, s41, trivial⟩, e40.ke0, cx, s3, b8, trivial⟩
    · intro o_ L_ F_ lab_ w_ ho_ hL_ hw_ hcl_ hb_ hr_ hq_; obtain rfl := Option.some.inj (ho_ : some _ = some o_); obtain ⟨cx, s3, b8, _⟩ := hq_
      obtain ⟨q47, hl35, oa44, c45, rfl, s46, _⟩ := hr_ 14 (by decide) (hw_ 14 (by kernel_rfl))
      replace hl35 : Gk.look F_ 35 = some (.slice oa44 ([(S_api_Block.mk a0.Num a0.More a0.Size), (S_api_Block.mk x15 a0.More x23), (S_api_Block.mk x33 false 6)]).length c45) := hl35
      refine LW.len kUnd_53 wn rfl hl35 ?_
      refine LW.nil ?_; intro a_ ha_
      exact ⟨rfl, _, _, ha_, ⟨rfl, trivial⟩, Ke.refl, cx, s3, b8, trivial⟩
    · exact ob_moveb (v := .int .i64 0) rfl (fun _ _ => rfl) rfl (fun _ _ _ => ⟨rfl, trivial⟩) (fun _ _ _ h_ => h_)
  · intro F_ lab_ w_ hb_ hr_ hq_; obtain ⟨cx, s3, b8, _⟩ := hq_
    obtain ⟨q53, hl35, oa50, c51, rfl, s52, _⟩ := hr_ 14 (by decide)
    obtain ⟨q54, hl36, rfl, _⟩ := hr_ 15 (by decide)
    obtain ⟨q55, hl37, rfl, _⟩ := hr_ 16 (by decide)
    refine LW.sub (G := [(1, .slice oa1 a1.length c2), (2, .int .i64 a2), (3, .int .i64 a3), (4, .pointer (some ⟨g4, 0, none⟩)), (35, .slice oa50 ([(S_api_Block.mk a0.Num a0.More a0.Size), (S_api_Block.mk x15 a0.More x23), (S_api_Block.mk x33 false 6)]).length c51), (36, .int .i64 (([(S_api_Block.mk a0.Num a0.More a0.Size), (S_api_Block.mk x15 a0.More x23), (S_api_Block.mk x33 false 6)]).length : Int)), (37, .int .i64 0)]) ⟨hb_ 1 _ rfl, hb_ 2 _ rfl, hb_ 3 _ rfl, hb_ 4 _ rfl, hl35, hl36, hl37, trivial⟩ ?_
    simp only [List.drop_succ_cons, List.drop_nil, List.drop_zero]
    refine LW.nil ?_
    refine EW.seq_n ?_
    obtain ⟨s57, h58, hs59, hs60⟩ := bndS_some hm; clear hm
    refine CW.join_any (fun F_ w61 => ∃ (y56 : Unit) (lab62 : Lab) , s57 = .inr y56 ∧ F_ = [(1, .slice oa1 a1.length c2), (2, .int .i64 a2), (3, .int .i64 a3)] ∧ Cx [] w lab w61 lab62 ∧ SL Rep.u8 lab62 w61 oa1 c2 a1 ∧ True) ?_ ?_
    · have hm := h58; clear h58
      refine CW.block ?_
      refine CW.sub (G := [(1, .slice oa1 a1.length c2), (2, .int .i64 a2), (3, .int .i64 a3), (35, .slice oa50 ([(S_api_Block.mk a0.Num a0.More a0.Size), (S_api_Block.mk x15 a0.More x23), (S_api_Block.mk x33 false 6)]).length c51), (36, .int .i64 (([(S_api_Block.mk a0.Num a0.More a0.Size), (S_api_Block.mk x15 a0.More x23), (S_api_Block.mk x33 false 6)]).length : Int)), (37, .int .i64 0)]) ⟨rfl, rfl, rfl, rfl, rfl, rfl, trivial⟩ ?_
      refine CW.loop (fun n65 F_ w63 => ∃ (lab64 : Lab) (k66 : Nat) (rem67 : List S_api_Block)  , n65 = rem67.length ∧ ([(S_api_Block.mk a0.Num a0.More a0.Size), (S_api_Block.mk x15 a0.More x23), (S_api_Block.mk x33 false 6)]).drop k66 = rem67 ∧ F_ = [(1, .slice oa1 a1.length c2), (2, .int .i64 a2), (3, .int .i64 a3), (35, .slice oa50 ([(S_api_Block.mk a0.Num a0.More a0.Size), (S_api_Block.mk x15 a0.More x23), (S_api_Block.mk x33 false 6)]).length c51), (36, .int .i64 (([(S_api_Block.mk a0.Num a0.More a0.Size), (S_api_Block.mk x15 a0.More x23), (S_api_Block.mk x33 false 6)]).length : Int)), (37, .int .i64 ((k66 : Nat) : Int))] ∧ Cx [] w lab w63 lab64 ∧ SL Rep.u8 lab64 w63 oa1 c2 a1 ∧ SL R_api_Block lab64 w63 oa50 c51 ([(S_api_Block.mk a0.Num a0.More a0.Size), (S_api_Block.mk x15 a0.More x23), (S_api_Block.mk x33 false 6)]) ∧ m_coreseclaw18_BlockValues_l1  rem67 k66 = some s57) _ ⟨_, 0, [(S_api_Block.mk a0.Num a0.More a0.Size), (S_api_Block.mk x15 a0.More x23), (S_api_Block.mk x33 false 6)], rfl, rfl, rfl, cx, s3, s52, hm⟩ ?_
      rintro n65 _ w63 ⟨lab64, k66, rem67, rfl, hd, rfl, cx, s3, s52, hm⟩
      rcases rem67 with _ | ⟨x68, rem67⟩
      · rw [m_coreseclaw18_BlockValues_l1] at hm; have hlt := drop_nil hd
        refine CW.seq ?_
        refine CW.region ?_
        refine LW.lss_lit hlt wn rfl rfl rfl ?_
        refine LW.nil ?_
        refine EW.seq_n ?_
        refine CW.seq ?_
        refine CW.cond_f rfl ?_
        refine CW.exit ?_
        refine EW.seq_x ?_
        refine EW.join_x ?_
        refine EW.block_x ?_
        obtain rfl := Option.some.inj hm
        refine EW.sub (G := [(1, .slice oa1 a1.length c2), (2, .int .i64 a2), (3, .int .i64 a3)]) ⟨rfl, rfl, rfl, trivial⟩ ?_
        exact EW.join_n ⟨(), _, rfl, rfl, cx, s3, trivial⟩
      · rw [m_coreseclaw18_BlockValues_l1] at hm; obtain ⟨hlt, hix, hd, hlt2⟩ := drop_cons hd
        refine CW.seq ?_
        refine CW.region ?_
        refine LW.lss_lit hlt wn rfl rfl rfl ?_
        refine LW.nil ?_
        refine EW.seq_n ?_
        refine CW.seq ?_
        refine CW.cond_t rfl ?_
        refine CW.skip ?_
        refine EW.seq_n ?_
        refine CW.seq ?_
        refine CW.block ?_
        refine CW.seq ?_
        refine CW.region ?_
        refine LW.index (bnd_ret hix) s52 kSl_53 wn rfl rfl rfl ?_; intro x_ p69 cs70 hx_ hr71 ha72; cases hx_
        obtain ⟨rfl, _⟩ := hr71
        refine LW.loadAn ha72 kAgg_26 rfl wn rfl rfl ?_
        refine LW.alloc 20 [.int .i64 0, .bool false, .int .i64 0] kZero_26 rfl cx.top wn rfl ?_
        intro g73 lab74 w75 e76 b77
        replace cx := cx.step e76 rfl
        replace s3 := s3.step e76
        replace s52 := s52.step e76
        replace ha72 := ha72.step e76
        clear e76
        refine LW.storeBn [.int .i64 x68.Num, .bool x68.More, .int .i64 x68.Size] [.int .i64 x68.Num, .bool x68.More, .int .i64 x68.Size] b77 cx.top rfl kAgg_26 rfl rfl rfl rfl wn rfl rfl ?_
        intro w78 e79 b80; clear b77
        replace cx := cx.step e79 rfl
        replace s3 := s3.step e79
        replace s52 := s52.step e79
        replace ha72 := ha72.step e79
        clear e79
        refine LW.nil ?_
        refine EW.seq_n ?_
        refine CW.seq ?_
        refine CW.region ?_
        refine LW.loadBn [.int .i64 x68.Num, .bool x68.More, .int .i64 x68.Size] b80 kAgg_26 rfl rfl wn rfl rfl ?_
        obtain ⟨y81, h85, hm_⟩ := bnd_some hm; clear hm; have hm := hm_; clear hm_
        refine LW.call kFn_25 (c_block_Value h85 cx.top) wn rfl rfl ?_
        rintro _ w82 ⟨oa86, c87, rfl, e83, s88, _⟩; refine ⟨_, rfl, ?_⟩
        replace cx := cx.step e83 rfl
        replace s3 := s3.step e83
        replace b80 := b80.step e83 rfl
        replace s52 := s52.step e83
        clear e83
        refine LW.move wn rfl rfl ?_
        refine LW.extract wn rfl rfl rfl ?_
        refine LW.extract wn rfl rfl rfl ?_
        refine LW.assign wn rfl rfl ?_
        refine LW.assign wn rfl rfl ?_
        refine LW.nil ?_
        refine EW.seq_n ?_
        refine CW.seq ?_
        refine CW.region ?_
        refine LW.loadBn [.int .i64 x68.Num, .bool x68.More, .int .i64 x68.Size] b80 kAgg_26 rfl rfl wn rfl rfl ?_
        obtain ⟨y89, h93, hm_⟩ := bnd_some hm; clear hm; have hm := hm_; clear hm_
        refine LW.call kFn_26 (c_coresecref18_Value h93 cx.top) wn rfl rfl ?_
        rintro _ w90 ⟨oa94, c95, rfl, e91, s96, _⟩; refine ⟨_, rfl, ?_⟩
        replace cx := cx.step e91 rfl
        replace s3 := s3.step e91
        replace b80 := b80.step e91 rfl
        replace s88 := s88.step e91
        replace s52 := s52.step e91
        clear e91
        refine LW.move wn rfl rfl ?_
        refine LW.extract wn rfl rfl rfl ?_
        refine LW.extract wn rfl rfl rfl ?_
        refine LW.assign wn rfl rfl ?_
        refine LW.assign wn rfl rfl ?_
        refine LW.nil ?_
        refine EW.seq_n ?_
        refine CW.seq ?_
        obtain ⟨y97, h98, hm_⟩ := bnd_some hm; clear hm
        refine CW.join_any (fun F_ w99 => ∃ (lab100 : Lab) , F_ = [(1, .slice oa1 a1.length c2), (2, .int .i64 a2), (3, .int .i64 a3), (35, .slice oa50 ([(S_api_Block.mk a0.Num a0.More a0.Size), (S_api_Block.mk x15 a0.More x23), (S_api_Block.mk x33 false 6)]).length c51), (36, .int .i64 (([(S_api_Block.mk a0.Num a0.More a0.Size), (S_api_Block.mk x15 a0.More x23), (S_api_Block.mk x33 false 6)]).length : Int)), (37, .int .i64 ((k66 : Nat) : Int)), (60, .bool y97)] ∧ Cx [] w lab w99 lab100 ∧ SL Rep.u8 lab100 w99 oa1 c2 a1 ∧ SL R_api_Block lab100 w99 oa50 c51 ([(S_api_Block.mk a0.Num a0.More a0.Size), (S_api_Block.mk x15 a0.More x23), (S_api_Block.mk x33 false 6)]) ∧ True) ?_ ?_
        · have hm := h98; clear h98
          refine CW.region ?_
          refine LW.move wn rfl rfl ?_
          refine LW.b2s (xs := y81.1) s88 kUnd_24 kUnd_5 kUnd_9 wn rfl rfl ?_
          refine LW.move wn rfl rfl ?_
          refine LW.b2s (xs := y89.1) s96 kUnd_24 kUnd_5 kUnd_9 wn rfl rfl ?_
          refine LW.nes hm wn rfl rfl rfl ?_; clear hm; intro x101 hm
          refine LW.move wn rfl rfl ?_
          rcases Bool.eq_false_or_eq_true x101 with hb103 | hb103
          · replace hm := cond_t hm hb103
            refine LW.skip 56 rfl (bk rfl hb103) rfl rfl ?_
            refine LW.skip 56 rfl (bk rfl hb103) rfl rfl ?_
            refine LW.skip 56 rfl (bk rfl hb103) rfl rfl ?_
            refine LW.pick_t wn rfl (bk rfl hb103) rfl ?_
            refine LW.nil ?_
            obtain rfl := Option.some.inj hm
            refine EW.sub (G := [(1, .slice oa1 a1.length c2), (2, .int .i64 a2), (3, .int .i64 a3), (35, .slice oa50 ([(S_api_Block.mk a0.Num a0.More a0.Size), (S_api_Block.mk x15 a0.More x23), (S_api_Block.mk x33 false 6)]).length c51), (36, .int .i64 (([(S_api_Block.mk a0.Num a0.More a0.Size), (S_api_Block.mk x15 a0.More x23), (S_api_Block.mk x33 false 6)]).length : Int)), (37, .int .i64 ((k66 : Nat) : Int)), (60, .bool true)]) ⟨rfl, rfl, rfl, rfl, rfl, rfl, rfl, trivial⟩ ?_
            exact EW.join_n ⟨_, rfl, cx, s3, s52, trivial⟩
          · replace hm := cond_f hm hb103
            refine LW.move (ws 56 rfl (bk rfl hb103)) rfl rfl ?_
            refine LW.move (ws 56 rfl (bk rfl hb103)) rfl rfl ?_
            refine LW.neq hm (ws 56 rfl (bk rfl hb103)) rfl rfl rfl ?_; clear hm; intro x104 hm
            refine LW.pick_f wn rfl (bk rfl hb103) rfl ?_
            refine LW.nil ?_
            obtain rfl := Option.some.inj hm
            refine EW.sub (G := [(1, .slice oa1 a1.length c2), (2, .int .i64 a2), (3, .int .i64 a3), (35, .slice oa50 ([(S_api_Block.mk a0.Num a0.More a0.Size), (S_api_Block.mk x15 a0.More x23), (S_api_Block.mk x33 false 6)]).length c51), (36, .int .i64 (([(S_api_Block.mk a0.Num a0.More a0.Size), (S_api_Block.mk x15 a0.More x23), (S_api_Block.mk x33 false 6)]).length : Int)), (37, .int .i64 ((k66 : Nat) : Int)), (60, .bool x104)]) ⟨rfl, rfl, rfl, rfl, rfl, rfl, rfl, trivial⟩ ?_
            exact EW.join_n ⟨_, rfl, cx, s3, s52, trivial⟩
        · rintro _ w99 ⟨lab100, rfl, cx, s3, s52, _⟩
          have hm := hm_; clear hm_
          refine EW.seq_n ?_
          refine CW.cond (b := y97) rfl (fun hb105 => ?_) (fun hb105 => ?_)
          · replace hm := cond_t hm hb105
            refine CW.seq ?_
            refine CW.region ?_
            refine LW.assign wn rfl rfl ?_
            refine LW.nil ?_
            refine EW.seq_n ?_
            refine CW.ret ?_
            refine EW.block_r ?_
            refine EW.seq_r ?_
            refine EW.join_r ?_
            refine EW.block_r ?_
            refine EW.join_r ?_
            obtain rfl := Option.some.inj hm; have hm := hs59 _ rfl
            refine EW.seq_r ?_
            obtain rfl := Option.some.inj hm
            exact EW.ret1 rfl rfl ⟨rfl, (cx.ste t), trivial⟩
          · replace hm := cond_f hm hb105
            refine CW.skip ?_
            refine EW.block_n ?_
            refine EW.seq_n ?_
            refine CW.region ?_
            refine LW.add_lit (w64_succ hlt2 s52.le) wn rfl rfl rfl ?_
            refine LW.move wn rfl rfl ?_
            refine LW.nil ?_
            refine EW.sub (G := [(1, .slice oa1 a1.length c2), (2, .int .i64 a2), (3, .int .i64 a3), (35, .slice oa50 ([(S_api_Block.mk a0.Num a0.More a0.Size), (S_api_Block.mk x15 a0.More x23), (S_api_Block.mk x33 false 6)]).length c51), (36, .int .i64 (([(S_api_Block.mk a0.Num a0.More a0.Size), (S_api_Block.mk x15 a0.More x23), (S_api_Block.mk x33 false 6)]).length : Int)), (37, .int .i64 ((k66 + 1 : Nat) : Int))]) ⟨rfl, rfl, rfl, rfl, rfl, rfl, trivial⟩ ?_
            exact EW.join_n ⟨_, Nat.lt_succ_self _, _, k66 + 1, rem67, rfl, hd, rfl, cx, s3, s52, hm⟩
    · rintro _ w61 ⟨y56, lab62, hsr_, rfl, cx, s3, _⟩
      have hm := hs60 _ hsr_; clear hsr_
      refine EW.seq_n ?_
      refine CW.seq ?_
      refine CW.seq ?_
      refine CW.region ?_
      refine LW.move wn rfl rfl ?_
      refine LW.move wn rfl rfl ?_
      refine LW.move wn rfl rfl ?_
      obtain ⟨y106, h110, hm_⟩ := bnd_some hm; clear hm; have hm := hm_; clear hm_
      refine LW.call kFn_13 (c_coresecmake_Mod h110 cx.top) wn rfl rfl ?_
      rintro _ w107 ⟨rfl, e108, _⟩; refine ⟨_, rfl, ?_⟩
      replace cx := cx.step e108 rfl
      replace s3 := s3.step e108
      clear e108
      obtain ⟨y111, h115, hm_⟩ := bnd_some hm; clear hm; have hm := hm_; clear hm_
      refine LW.call kFn_16 (c_coresecmake_Some h115 cx.top) wn rfl rfl ?_
      rintro _ w112 ⟨oa116, c117, rfl, e113, s118, _⟩; refine ⟨_, rfl, ?_⟩
      replace cx := cx.step e113 rfl
      replace s3 := s3.step e113
      clear e113
      refine LW.buildSlice (ρ := (Rep.sl Rep.u8)) (vs := [(0, .slice oa1 a1.length c2), (1, .slice oa116 y111.length c117)]) (css := [[.slice oa1 a1.length c2], [.slice oa116 y111.length c117]]) (xs := [a1, y111]) rfl kSl_56 kZero_24 (by kernel_rfl) rfl rfl ⟨⟨_, _, rfl, s3⟩, ⟨_, _, rfl, s118⟩, trivial⟩ cx.top wn rfl ?_
      intro oa119 c120 lab123 w124 e121 s122
      replace cx := cx.step e121 rfl
      replace s3 := s3.step e121
      replace s118 := s118.step e121
      clear e121
      refine LW.len kUnd_56 wn rfl rfl ?_
      refine LW.move wn rfl rfl ?_
      refine LW.nil ?_
      refine EW.seq_n ?_
      obtain ⟨s126, h127, hs128, hs129⟩ := bndS_some hm; clear hm
      refine CW.join_any (fun F_ w130 => ∃ (y125 : Unit) (lab131 : Lab) , s126 = .inr y125 ∧ F_ = [] ∧ Cx [] w lab w130 lab131 ∧ True) ?_ ?_
      · have hm := h127; clear h127
        refine CW.block ?_
        refine CW.sub (G := [(67, .slice oa119 ([a1, y111]).length c120), (68, .int .i64 (([a1, y111]).length : Int)), (69, .int .i64 0)]) ⟨rfl, rfl, rfl, trivial⟩ ?_
        refine CW.loop (fun n134 F_ w132 => ∃ (lab133 : Lab) (k135 : Nat) (rem136 : List (List UInt8))  , n134 = rem136.length ∧ ([a1, y111]).drop k135 = rem136 ∧ F_ = [(67, .slice oa119 ([a1, y111]).length c120), (68, .int .i64 (([a1, y111]).length : Int)), (69, .int .i64 ((k135 : Nat) : Int))] ∧ Cx [] w lab w132 lab133 ∧ SL (Rep.sl Rep.u8) lab133 w132 oa119 c120 ([a1, y111]) ∧ m_coreseclaw18_BlockValues_l2  rem136 k135 = some s126) _ ⟨_, 0, [a1, y111], rfl, rfl, rfl, cx, s122, hm⟩ ?_
        rintro n134 _ w132 ⟨lab133, k135, rem136, rfl, hd, rfl, cx, s122, hm⟩
        rcases rem136 with _ | ⟨x137, rem136⟩
        · rw [m_coreseclaw18_BlockValues_l2] at hm; have hlt := drop_nil hd
          refine CW.seq ?_
          refine CW.region ?_
          refine LW.lss_lit hlt wn rfl rfl rfl ?_
          refine LW.nil ?_
          refine EW.seq_n ?_
          refine CW.seq ?_
          refine CW.cond_f rfl ?_
          refine CW.exit ?_
          refine EW.seq_x ?_
          refine EW.join_x ?_
          refine EW.block_x ?_
          obtain rfl := Option.some.inj hm
          refine EW.sub (G := []) trivial ?_
          exact EW.join_n ⟨(), _, rfl, rfl, cx, trivial⟩
        · rw [m_coreseclaw18_BlockValues_l2] at hm; obtain ⟨hlt, hix, hd, hlt2⟩ := drop_cons hd
          refine CW.seq ?_
          refine CW.region ?_
          refine LW.lss_lit hlt wn rfl rfl rfl ?_
          refine LW.nil ?_
          refine EW.seq_n ?_
          refine CW.seq ?_
          refine CW.cond_t rfl ?_
          refine CW.skip ?_
          refine EW.seq_n ?_
          refine CW.seq ?_
          refine CW.block ?_
          refine CW.seq ?_
          refine CW.region ?_
          refine LW.index (bnd_ret hix) s122 kSl_56 wn rfl rfl rfl ?_; intro x_ p138 cs139 hx_ hr140 ha141; cases hx_
          obtain ⟨oa142, c143, rfl, s144⟩ := hr140
          refine LW.loadA1 (ha141.cell0 rfl) kOne_24 wn rfl rfl ?_
          refine LW.assign wn rfl rfl ?_
          refine LW.nil ?_
          refine EW.seq_n ?_
          refine CW.seq ?_
          refine CW.region ?_
          refine LW.move wn rfl rfl ?_
          obtain ⟨y145, h149, hm_⟩ := bnd_some hm; clear hm; have hm := hm_; clear hm_
          refine LW.call kFn_27 (c_block_Parse h149 cx.top s144) wn rfl rfl ?_
          rintro _ w146 ⟨rfl, e147, _⟩; refine ⟨_, rfl, ?_⟩
          replace cx := cx.step e147 rfl
          replace s144 := s144.step e147
          replace s122 := s122.step e147
          clear e147
          refine LW.move wn rfl rfl ?_
          refine LW.extract wn rfl rfl rfl ?_
          refine LW.extract wn rfl rfl rfl ?_
          refine LW.alloc 27 [.int .i64 0, .bool false, .int .i64 0] kZero_26 rfl cx.top wn rfl ?_
          intro g150 lab151 w152 e153 b154
          replace cx := cx.step e153 rfl
          replace s144 := s144.step e153
          replace s122 := s122.step e153
          clear e153
          refine LW.storeBn [.int .i64 y145.1.Num, .bool y145.1.More, .int .i64 y145.1.Size] [.int .i64 y145.1.Num, .bool y145.1.More, .int .i64 y145.1.Size] b154 cx.top rfl kAgg_26 rfl rfl rfl rfl wn rfl rfl ?_
          intro w155 e156 b157; clear b154
          replace cx := cx.step e156 rfl
          replace s144 := s144.step e156
          replace s122 := s122.step e156
          clear e156
          refine LW.assign wn rfl rfl ?_
          refine LW.nil ?_
          refine EW.seq_n ?_
          refine CW.seq ?_
          refine CW.region ?_
          refine LW.move wn rfl rfl ?_
          obtain ⟨y158, h162, hm_⟩ := bnd_some hm; clear hm; have hm := hm_; clear hm_
          refine LW.call kFn_28 (c_coresecref18_Parse h162 cx.top s144) wn rfl rfl ?_
          rintro _ w159 ⟨rfl, e160, _⟩; refine ⟨_, rfl, ?_⟩
          replace cx := cx.step e160 rfl
          replace s144 := s144.step e160
          replace b157 := b157.step e160 rfl
          replace s122 := s122.step e160
          clear e160
          refine LW.move wn rfl rfl ?_
          refine LW.extract wn rfl rfl rfl ?_
          refine LW.extract wn rfl rfl rfl ?_
          refine LW.alloc 29 [.int .i64 0, .bool false, .int .i64 0] kZero_26 rfl cx.top wn rfl ?_
          intro g163 lab164 w165 e166 b167
          replace cx := cx.step e166 rfl
          replace s144 := s144.step e166
          replace b157 := b157.step e166 rfl
          replace s122 := s122.step e166
          clear e166
          refine LW.storeBn [.int .i64 y158.1.Num, .bool y158.1.More, .int .i64 y158.1.Size] [.int .i64 y158.1.Num, .bool y158.1.More, .int .i64 y158.1.Size] b167 cx.top rfl kAgg_26 rfl rfl rfl rfl wn rfl rfl ?_
          intro w168 e169 b170; clear b167
          replace cx := cx.step e169 rfl
          replace s144 := s144.step e169
          replace b157 := b157.step e169 rfl
          replace s122 := s122.step e169
          clear e169
          refine LW.assign wn rfl rfl ?_
          refine LW.nil ?_
          refine EW.seq_n ?_
          refine CW.seq ?_
          obtain ⟨y171, h172, hm_⟩ := bnd_some hm; clear hm
          refine CW.join_any (fun F_ w173 => ∃ (lab174 : Lab) , F_ = [(67, .slice oa119 ([a1, y111]).length c120), (68, .int .i64 (([a1, y111]).length : Int)), (69, .int .i64 ((k135 : Nat) : Int)), (90, .bool y171)] ∧ Cx [] w lab w173 lab174 ∧ SL (Rep.sl Rep.u8) lab174 w173 oa119 c120 ([a1, y111]) ∧ True) ?_ ?_
          · have hm := h172; clear h172
            refine CW.region ?_
            refine LW.loadBn [.int .i64 y145.1.Num, .bool y145.1.More, .int .i64 y145.1.Size] b157 kAgg_26 rfl rfl wn rfl rfl ?_
            refine LW.loadBn [.int .i64 y158.1.Num, .bool y158.1.More, .int .i64 y158.1.Size] b170 kAgg_26 rfl rfl wn rfl rfl ?_
            refine LW.neA (b := ((y145.1.Num == y158.1.Num) && ((y145.1.More == y158.1.More) && ((y145.1.Size == y158.1.Size) && true)))) hm kEqS_26 wn rfl rfl rfl ?_; clear hm; intro x175 hm
            refine LW.move wn rfl rfl ?_
            rcases Bool.eq_false_or_eq_true x175 with hb177 | hb177
            · replace hm := cond_t hm hb177
              refine LW.skip 86 rfl (bk rfl hb177) rfl rfl ?_
              refine LW.skip 86 rfl (bk rfl hb177) rfl rfl ?_
              refine LW.skip 86 rfl (bk rfl hb177) rfl rfl ?_
              refine LW.pick_t wn rfl (bk rfl hb177) rfl ?_
              refine LW.nil ?_
              obtain rfl := Option.some.inj hm
              refine EW.sub (G := [(67, .slice oa119 ([a1, y111]).length c120), (68, .int .i64 (([a1, y111]).length : Int)), (69, .int .i64 ((k135 : Nat) : Int)), (90, .bool true)]) ⟨rfl, rfl, rfl, rfl, trivial⟩ ?_
              exact EW.join_n ⟨_, rfl, cx, s122, trivial⟩
            · replace hm := cond_f hm hb177
              refine LW.move (ws 86 rfl (bk rfl hb177)) rfl rfl ?_
              refine LW.move (ws 86 rfl (bk rfl hb177)) rfl rfl ?_
              refine LW.neq hm (ws 86 rfl (bk rfl hb177)) rfl rfl rfl ?_; clear hm; intro x178 hm
              refine LW.pick_f wn rfl (bk rfl hb177) rfl ?_
              refine LW.nil ?_
              obtain rfl := Option.some.inj hm
              refine EW.sub (G := [(67, .slice oa119 ([a1, y111]).length c120), (68, .int .i64 (([a1, y111]).length : Int)), (69, .int .i64 ((k135 : Nat) : Int)), (90, .bool x178)]) ⟨rfl, rfl, rfl, rfl, trivial⟩ ?_
              exact EW.join_n ⟨_, rfl, cx, s122, trivial⟩
          · rintro _ w173 ⟨lab174, rfl, cx, s122, _⟩
            have hm := hm_; clear hm_
            refine EW.seq_n ?_
            refine CW.cond (b := y171) rfl (fun hb179 => ?_) (fun hb179 => ?_)
            · replace hm := cond_t hm hb179
              refine CW.seq ?_
              refine CW.region ?_
              refine LW.assign wn rfl rfl ?_
              refine LW.nil ?_
              refine EW.seq_n ?_
              refine CW.ret ?_
              refine EW.block_r ?_
              refine EW.seq_r ?_
              refine EW.join_r ?_
              refine EW.block_r ?_
              refine EW.join_r ?_
              obtain rfl := Option.some.inj hm; have hm := hs128 _ rfl
              refine EW.seq_r ?_
              obtain rfl := Option.some.inj hm
              exact EW.ret1 rfl rfl ⟨rfl, (cx.ste t), trivial⟩
            · replace hm := cond_f hm hb179
              refine CW.skip ?_
              refine EW.block_n ?_
              refine EW.seq_n ?_
              refine CW.region ?_
              refine LW.add_lit (w64_succ hlt2 s122.le) wn rfl rfl rfl ?_
              refine LW.move wn rfl rfl ?_
              refine LW.nil ?_
              refine EW.sub (G := [(67, .slice oa119 ([a1, y111]).length c120), (68, .int .i64 (([a1, y111]).length : Int)), (69, .int .i64 ((k135 + 1 : Nat) : Int))]) ⟨rfl, rfl, rfl, trivial⟩ ?_
              exact EW.join_n ⟨_, Nat.lt_succ_self _, _, k135 + 1, rem136, rfl, hd, rfl, cx, s122, hm⟩
      · rintro _ w130 ⟨y125, lab131, hsr_, rfl, cx, _⟩
        have hm := hs129 _ hsr_; clear hsr_
        refine EW.seq_n ?_
        refine CW.seq ?_
        refine CW.region ?_
        obtain ⟨y180, h184, hm_⟩ := bnd_some hm; clear hm; have hm := hm_; clear hm_
        refine LW.call kFn_10 (c_coreseclaw18_awake h184 cx.top) wn rfl rfl ?_
        rintro _ w181 ⟨rfl, e182, _⟩; refine ⟨_, rfl, ?_⟩
        replace cx := cx.step e182 rfl
        clear e182
        refine LW.assign wn rfl rfl ?_
        refine LW.nil ?_
        refine EW.seq_n ?_
        refine CW.ret ?_
        obtain rfl := Option.some.inj hm
        exact EW.ret1 rfl rfl ⟨rfl, (cx.ste t), trivial⟩
end Go.Proofs.Ytaefnnamjphieaa
