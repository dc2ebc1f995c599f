/-
  Package option: models of its functions, and that the functions compute them. No condition but that the model has a value.
-/
import Derived.Test.YtaefnnamjphieaaPCoresecmake
namespace Go.Proofs.Ytaefnnamjphieaa
open Go.Gk Go.RowKit
set_option linter.unusedVariables false in
def m_option_FromUint_l1 (a0 : Int) : Nat → (List UInt8) → Int → Option ((List UInt8))
    | 0, _, _ => none
    | n24 + 1, x17, x18 => letm (decide (0 ≤ x18)) fun x25 =>
  (cond x25 (bnd (Gk.shr a0 x18) fun x27 =>
  letm (decide (0 < x27)) fun x28 =>
  (cond x28 (bnd (Gk.shr a0 x18) fun x30 =>
  letm (toU8 x30) fun x31 =>
  bnd (app x17 ([x31])) fun x38 =>
  letm (w64 (x18 - 8)) fun x45 =>
  m_option_FromUint_l1 a0 n24 x38 x45)
   (letm (w64 (x18 - 8)) fun x46 =>
  m_option_FromUint_l1 a0 n24 x17 x46)))
   (some (x17)))
set_option linter.unusedVariables false in
def m_option_FromUint (a0 : Int) : Option ((List UInt8)) :=
  bnd (letm (decide (a0 < 0)) fun x5 =>
  (cond x5 (some (true))
   (letm (decide (4294967295 < a0)) fun x8 =>
  some (x8))) : Option (Bool)) fun y1 =>
  (cond y1 (some ([]))
   (bnd (m_option_FromUint_l1 a0 ((24 : Int).toNat + 2) ([]) 24 : Option ((List UInt8))) fun y10 =>
  some y10))
set_option maxRecDepth 100000 in
set_option maxHeartbeats 2000000 in
theorem c_option_FromUint {lab : Lab} {w : World} {a0 : Int} {r : (List UInt8)} (hm : m_option_FromUint a0 = some r) (t : Top lab w) : Calls Try.prog 36 [.int .i64 a0].toArray w (fun e w' => ∃ (oa0_0 : Option Addr) (c0_0 : Nat), e = .returned (.slice oa0_0 r.length c0_0) ∧ Ste lab 0 w lab w' ∧ SL Rep.u8 lab w' oa0_0 c0_0 r ∧ True) := by
  refine enter Try.func36 rfl 27 rfl rfl ?_
  have cx := Cx.start t
  refine CW.sub (G := [(0, .int .i64 a0)]) ⟨rfl, trivial⟩ ?_
  unfold m_option_FromUint at hm
  refine CW.seq ?_
  refine CW.region ?_
  refine LW.assign wn rfl rfl ?_
  refine LW.nil ?_
  refine EW.seq_n ?_
  refine CW.seq ?_
  refine CW.seq ?_
  obtain ⟨y1, h2, hm_⟩ := bnd_some hm; clear hm
  refine CW.join_any (fun F_ w3 => ∃ (lab4 : Lab) , F_ = [(0, .int .i64 a0), (10, .bool y1)] ∧ Cx [] w lab w3 lab4 ∧ True) ?_ ?_
  · have hm := h2; clear h2
    refine CW.region ?_
    refine LW.move wn rfl rfl ?_
    refine LW.lss hm wn rfl rfl rfl ?_; clear hm; intro x5 hm
    refine LW.move wn rfl rfl ?_
    rcases Bool.eq_false_or_eq_true x5 with hb7 | hb7
    · replace hm := cond_t hm hb7
      refine LW.skip 7 rfl (bk rfl hb7) rfl rfl ?_
      refine LW.skip 7 rfl (bk rfl hb7) rfl rfl ?_
      refine LW.pick_t wn rfl (bk rfl hb7) rfl ?_
      refine LW.nil ?_
      obtain rfl := Option.some.inj hm
      refine EW.sub (G := [(0, .int .i64 a0), (10, .bool true)]) ⟨rfl, rfl, trivial⟩ ?_
      exact EW.join_n ⟨_, rfl, cx, trivial⟩
    · replace hm := cond_f hm hb7
      refine LW.move (ws 7 rfl (bk rfl hb7)) rfl rfl ?_
      refine LW.gtr hm (ws 7 rfl (bk rfl hb7)) rfl rfl rfl ?_; clear hm; intro x8 hm
      refine LW.pick_f wn rfl (bk rfl hb7) rfl ?_
      refine LW.nil ?_
      obtain rfl := Option.some.inj hm
      refine EW.sub (G := [(0, .int .i64 a0), (10, .bool x8)]) ⟨rfl, rfl, trivial⟩ ?_
      exact EW.join_n ⟨_, rfl, cx, trivial⟩
  · rintro _ w3 ⟨lab4, rfl, cx, _⟩
    have hm := hm_; clear hm_
    refine EW.seq_n ?_
    refine CW.cond (b := y1) rfl (fun hb9 => ?_) (fun hb9 => ?_)
    · replace hm := cond_t hm hb9
      refine CW.seq ?_
      refine CW.region ?_
      refine LW.assign wn rfl rfl ?_
      refine LW.nil ?_
      refine EW.seq_n ?_
      refine CW.ret ?_
      refine EW.seq_r ?_
      obtain rfl := Option.some.inj hm
      exact EW.ret1 rfl rfl ⟨none, 0, rfl, (cx.ste t), SL.nil, trivial⟩
    · replace hm := cond_f hm hb9
      refine CW.skip ?_
      refine EW.seq_n ?_
      refine CW.seq ?_
      refine CW.region ?_
      refine LW.assign wn rfl rfl ?_
      refine LW.nil ?_
      refine EW.seq_n ?_
      refine CW.seq ?_
      refine CW.seq ?_
      refine CW.region ?_
      refine LW.assign wn rfl rfl ?_
      refine LW.nil ?_
      refine EW.seq_n ?_
      obtain ⟨y10, h11, hm_⟩ := bnd_some hm; clear hm
      refine CW.join_any (fun F_ w15 => ∃ (lab16 : Lab) (oa12 : Option Addr) (c13 : Nat), F_ = [(3, .slice oa12 y10.length c13)] ∧ Cx [] w lab w15 lab16 ∧ Own Rep.u8 lab16 w15 13 5 oa12 c13 y10 ∧ True) ?_ ?_
      · have hm := h11; clear h11
        refine CW.block ?_
        refine CW.sub (G := [(0, .int .i64 a0), (3, .slice none ([] : List UInt8).length 0), (4, .int .i64 24)]) ⟨rfl, rfl, rfl, trivial⟩ ?_
        refine CW.loop (fun n24 F_ w22 => ∃ (lab23 : Lab) (x17 : List UInt8) (x18 : Int) (oa19 : Option Addr) (c20 : Nat), F_ = [(0, .int .i64 a0), (3, .slice oa19 x17.length c20), (4, .int .i64 x18)] ∧ Cx [] w lab w22 lab23 ∧ Own Rep.u8 lab23 w22 13 5 oa19 c20 x17 ∧ m_option_FromUint_l1 a0 n24 x17 x18 = some y10) ((24 : Int).toNat + 2) ⟨_, _, _, none, 0, rfl, cx, Own.nil, hm⟩ ?_
        rintro n24 _ w22 ⟨lab23, x17, x18, oa19, c20, rfl, cx, o21, hm⟩
        rcases n24 with _ | n24
        · rw [m_option_FromUint_l1] at hm; cases hm
        · rw [m_option_FromUint_l1] at hm
          refine CW.seq ?_
          refine CW.seq ?_
          refine CW.region ?_
          refine LW.move wn rfl rfl ?_
          refine LW.geq hm wn rfl rfl rfl ?_; clear hm; intro x25 hm
          refine LW.nil ?_
          refine EW.seq_n ?_
          refine CW.cond (b := x25) rfl (fun hb26 => ?_) (fun hb26 => ?_)
          · replace hm := cond_t hm hb26
            refine CW.skip ?_
            refine EW.seq_n ?_
            refine CW.seq ?_
            refine CW.block ?_
            refine CW.seq ?_
            refine CW.region ?_
            refine LW.move wn rfl rfl ?_
            refine LW.move wn rfl rfl ?_
            refine LW.shr hm wn rfl rfl rfl ?_; clear hm; intro x27 hm
            refine LW.gtr hm wn rfl rfl rfl ?_; clear hm; intro x28 hm
            refine LW.nil ?_
            refine EW.seq_n ?_
            refine CW.cond (b := x28) rfl (fun hb29 => ?_) (fun hb29 => ?_)
            · replace hm := cond_t hm hb29
              refine CW.region ?_
              refine LW.move wn rfl rfl ?_
              refine LW.move wn rfl rfl ?_
              refine LW.move wn rfl rfl ?_
              refine LW.shr hm wn rfl rfl rfl ?_; clear hm; intro x30 hm
              refine LW.cvt_u8 hm kIs_3 kInt_5 wn rfl rfl ?_; clear hm; intro x31 hm
              refine LW.buildSlice (ρ := Rep.u8) (vs := [(0, .int .u8 (x31.toNat : Int))]) (css := [[.int .u8 (x31.toNat : Int)]]) (xs := [x31]) rfl kSl_24 kZero_5 (by kernel_rfl) rfl rfl ⟨rfl, trivial⟩ cx.top wn rfl ?_
              intro oa32 c33 lab36 w37 e34 s35
              replace cx := cx.step e34 rfl
              replace o21 := o21.step e34 rfl
              clear e34
              refine LW.append (ρ := Rep.u8) (xs := x17) (ys := [x31]) hm o21 (SL.flat' (lab := _) (c := c33) s35) cx.top rfl kSl_24 rfl wn rfl rfl rfl ?_; clear hm; intro x38 oa39 c40 lab41 w42 hm e43 o44
              replace cx := cx.step e43 rfl
              replace s35 := s35.step e43
              clear e43
              refine LW.assign wn rfl rfl ?_
              refine LW.nil ?_
              refine EW.block_n ?_
              refine EW.seq_n ?_
              refine CW.region ?_
              refine LW.move wn rfl rfl ?_
              refine LW.sub' hm wn rfl rfl rfl ?_; clear hm; intro x45 hm
              refine LW.assign wn rfl rfl ?_
              refine LW.nil ?_
              refine EW.sub (G := [(0, .int .i64 a0), (3, .slice oa39 x38.length c40), (4, .int .i64 x45)]) ⟨rfl, rfl, rfl, trivial⟩ ?_
              exact EW.join_n ⟨_, Nat.lt_succ_self _, _, _, _, oa39, c40, rfl, cx, o44, hm⟩
            · replace hm := cond_f hm hb29
              refine CW.skip ?_
              refine EW.block_n ?_
              refine EW.seq_n ?_
              refine CW.region ?_
              refine LW.move wn rfl rfl ?_
              refine LW.sub' hm wn rfl rfl rfl ?_; clear hm; intro x46 hm
              refine LW.assign wn rfl rfl ?_
              refine LW.nil ?_
              refine EW.sub (G := [(0, .int .i64 a0), (3, .slice oa19 x17.length c20), (4, .int .i64 x46)]) ⟨rfl, rfl, rfl, trivial⟩ ?_
              exact EW.join_n ⟨_, Nat.lt_succ_self _, _, _, _, oa19, c20, rfl, cx, o21, hm⟩
          · replace hm := cond_f hm hb26
            refine CW.exit ?_
            refine EW.seq_x ?_
            refine EW.join_x ?_
            refine EW.block_x ?_
            obtain rfl := Option.some.inj hm
            refine EW.sub (G := [(3, .slice oa19 x17.length c20)]) ⟨rfl, trivial⟩ ?_
            exact EW.join_n ⟨_, oa19, c20, rfl, cx, o21, trivial⟩
      · rintro _ w15 ⟨lab16, oa12, c13, rfl, cx, o14, _⟩
        have hm := hm_; clear hm_
        refine EW.seq_n ?_
        refine CW.seq ?_
        refine CW.region ?_
        refine LW.move wn rfl rfl ?_
        refine LW.assign wn rfl rfl ?_
        refine LW.nil ?_
        refine EW.seq_n ?_
        refine CW.ret ?_
        obtain rfl := Option.some.inj hm
        exact EW.ret1 rfl rfl ⟨oa12, c13, rfl, (cx.ste t), (o14.sl (cx.keeps t) (cx.own0 t rfl)), trivial⟩
set_option linter.unusedVariables false in
def m_option_Uint_l1  : List UInt8 → Nat → Int → Option ((Int × Int) ⊕ Int)
    | [], k15, x11 => some (Sum.inr x11)
    | x17 :: rem16, k15, x11 => bnd (Gk.shl x11 ((8 : UInt64).toNat : Int)) fun x22 =>
  letm (w64 (x17.toNat : Int)) fun x23 =>
  letm (ibit .or x22 x23) fun x24 =>
  letm (decide (4294967295 < x24)) fun x25 =>
  (cond x25 (some (Sum.inl (0, 8)))
   (m_option_Uint_l1  rem16 (k15 + 1) x24))
set_option linter.unusedVariables false in
def m_option_Uint (a0 : List UInt8) : Option (Int × Int) :=
  bndS (m_option_Uint_l1  a0 0 0 : Option ((Int × Int) ⊕ Int)) (fun q => q) fun y4 =>
  some (y4, 0)
set_option maxRecDepth 100000 in
set_option maxHeartbeats 2000000 in
theorem c_option_Uint {lab : Lab} {w : World} {a0 : List UInt8} {r : Int × Int} (hm : m_option_Uint a0 = some r) (t : Top lab w) {oa1 : Option Addr} {c2 : Nat} (s3 : SL Rep.u8 lab w oa1 c2 a0) : Calls Try.prog 38 [.slice oa1 a0.length c2].toArray w (fun e w' => e = .returned (.tuple [.int .i64 r.1, .int .i64 r.2].toArray) ∧ Ste lab 0 w lab w' ∧ True) := by
  refine enter Try.func38 rfl 22 rfl rfl ?_
  have cx := Cx.start t
  replace s3 := s3.keep Keeps.lin
  refine CW.sub (G := [(0, .slice oa1 a0.length c2)]) ⟨rfl, trivial⟩ ?_
  unfold m_option_Uint at hm
  refine CW.seq ?_
  refine CW.region ?_
  refine LW.assign wn rfl rfl ?_
  refine LW.assign wn rfl rfl ?_
  refine LW.nil ?_
  refine EW.seq_n ?_
  refine CW.seq ?_
  refine CW.region ?_
  refine LW.assign wn rfl rfl ?_
  refine LW.nil ?_
  refine EW.seq_n ?_
  refine CW.seq ?_
  refine CW.seq ?_
  refine CW.region ?_
  refine LW.move wn rfl rfl ?_
  refine LW.len kUnd_24 wn rfl rfl ?_
  refine LW.move wn rfl rfl ?_
  refine LW.nil ?_
  refine EW.seq_n ?_
  obtain ⟨s5, h6, hs7, hs8⟩ := bndS_some hm; clear hm
  refine CW.join_any (fun F_ w9 => ∃ (y4 : Int) (lab10 : Lab) , s5 = .inr y4 ∧ F_ = [(4, .int .i64 y4)] ∧ Cx [] w lab w9 lab10 ∧ True) ?_ ?_
  · have hm := h6; clear h6
    refine CW.block ?_
    refine CW.sub (G := [(4, .int .i64 0), (7, .slice oa1 a0.length c2), (8, .int .i64 (a0.length : Int)), (9, .int .i64 0)]) ⟨rfl, rfl, rfl, rfl, trivial⟩ ?_
    refine CW.loop (fun n14 F_ w12 => ∃ (lab13 : Lab) (k15 : Nat) (rem16 : List UInt8) (x11 : Int) , n14 = rem16.length ∧ a0.drop k15 = rem16 ∧ F_ = [(4, .int .i64 x11), (7, .slice oa1 a0.length c2), (8, .int .i64 (a0.length : Int)), (9, .int .i64 ((k15 : Nat) : Int))] ∧ Cx [] w lab w12 lab13 ∧ SL Rep.u8 lab13 w12 oa1 c2 a0 ∧ m_option_Uint_l1  rem16 k15 x11 = some s5) _ ⟨_, 0, a0, _, rfl, rfl, rfl, cx, s3, hm⟩ ?_
    rintro n14 _ w12 ⟨lab13, k15, rem16, x11, rfl, hd, rfl, cx, s3, hm⟩
    rcases rem16 with _ | ⟨x17, rem16⟩
    · rw [m_option_Uint_l1] at hm; have hlt := drop_nil hd
      refine CW.seq ?_
      refine CW.region ?_
      refine LW.lss_lit hlt wn rfl rfl rfl ?_
      refine LW.nil ?_
      refine EW.seq_n ?_
      refine CW.seq ?_
      refine CW.cond_f rfl ?_
      refine CW.exit ?_
      refine EW.seq_x ?_
      refine EW.join_x ?_
      refine EW.block_x ?_
      obtain rfl := Option.some.inj hm
      refine EW.sub (G := [(4, .int .i64 x11)]) ⟨rfl, trivial⟩ ?_
      exact EW.join_n ⟨x11, _, rfl, rfl, cx, trivial⟩
    · rw [m_option_Uint_l1] at hm; obtain ⟨hlt, hix, hd, hlt2⟩ := drop_cons hd
      refine CW.seq ?_
      refine CW.region ?_
      refine LW.lss_lit hlt wn rfl rfl rfl ?_
      refine LW.nil ?_
      refine EW.seq_n ?_
      refine CW.seq ?_
      refine CW.cond_t rfl ?_
      refine CW.skip ?_
      refine EW.seq_n ?_
      refine CW.seq ?_
      refine CW.block ?_
      refine CW.seq ?_
      refine CW.region ?_
      refine LW.index (bnd_ret hix) s3 kSl_24 wn rfl rfl rfl ?_; intro x_ p18 cs19 hx_ hr20 ha21; cases hx_
      obtain rfl : cs19 = [.int .u8 (x17.toNat : Int)] := hr20
      refine LW.loadA1 (ha21.cell0 rfl) kOne_5 wn rfl rfl ?_
      refine LW.assign wn rfl rfl ?_
      refine LW.nil ?_
      refine EW.seq_n ?_
      refine CW.seq ?_
      refine CW.region ?_
      refine LW.move wn rfl rfl ?_
      refine LW.shl hm wn rfl rfl rfl ?_; clear hm; intro x22 hm
      refine LW.move wn rfl rfl ?_
      refine LW.cvt_i64 hm kIs_5 kInt_3 wn rfl rfl ?_; clear hm; intro x23 hm
      refine LW.ior hm wn rfl rfl rfl ?_; clear hm; intro x24 hm
      refine LW.assign wn rfl rfl ?_
      refine LW.nil ?_
      refine EW.seq_n ?_
      refine CW.seq ?_
      refine CW.region ?_
      refine LW.move wn rfl rfl ?_
      refine LW.gtr hm wn rfl rfl rfl ?_; clear hm; intro x25 hm
      refine LW.nil ?_
      refine EW.seq_n ?_
      refine CW.cond (b := x25) rfl (fun hb26 => ?_) (fun hb26 => ?_)
      · replace hm := cond_t hm hb26
        refine CW.seq ?_
        refine CW.region ?_
        refine LW.assign wn rfl rfl ?_
        refine LW.assign wn rfl rfl ?_
        refine LW.nil ?_
        refine EW.seq_n ?_
        refine CW.ret ?_
        refine EW.block_r ?_
        refine EW.seq_r ?_
        refine EW.join_r ?_
        refine EW.block_r ?_
        refine EW.join_r ?_
        obtain rfl := Option.some.inj hm; have hm := hs7 _ rfl
        refine EW.seq_r ?_
        obtain rfl := Option.some.inj hm
        exact EW.rets (vs := [.int .i64 0, .int .i64 8]) rfl ⟨rfl, rfl, trivial⟩ rfl ⟨rfl, (cx.ste t), trivial⟩
      · replace hm := cond_f hm hb26
        refine CW.skip ?_
        refine EW.block_n ?_
        refine EW.seq_n ?_
        refine CW.region ?_
        refine LW.add_lit (w64_succ hlt2 s3.le) wn rfl rfl rfl ?_
        refine LW.move wn rfl rfl ?_
        refine LW.nil ?_
        refine EW.sub (G := [(4, .int .i64 x24), (7, .slice oa1 a0.length c2), (8, .int .i64 (a0.length : Int)), (9, .int .i64 ((k15 + 1 : Nat) : Int))]) ⟨rfl, rfl, rfl, rfl, trivial⟩ ?_
        exact EW.join_n ⟨_, Nat.lt_succ_self _, _, k15 + 1, rem16, _, rfl, hd, rfl, cx, s3, hm⟩
  · rintro _ w9 ⟨y4, lab10, hsr_, rfl, cx, _⟩
    have hm := hs8 _ hsr_; clear hsr_
    refine EW.seq_n ?_
    refine CW.seq ?_
    refine CW.region ?_
    refine LW.move wn rfl rfl ?_
    refine LW.assign wn rfl rfl ?_
    refine LW.assign wn rfl rfl ?_
    refine LW.nil ?_
    refine EW.seq_n ?_
    refine CW.ret ?_
    obtain rfl := Option.some.inj hm
    exact EW.rets (vs := [.int .i64 y4, .int .i64 0]) rfl ⟨rfl, rfl, trivial⟩ rfl ⟨rfl, (cx.ste t), trivial⟩
end Go.Proofs.Ytaefnnamjphieaa
