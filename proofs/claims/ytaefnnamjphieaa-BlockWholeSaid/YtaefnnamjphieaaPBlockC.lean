/-
  Package block: models of its functions, and that the functions compute them. No condition but that the model has a value.
-/
import Derived.Test.YtaefnnamjphieaaPBlockB
namespace Go.Proofs.Ytaefnnamjphieaa
open Go.Gk Go.RowKit
set_option linter.unusedVariables false in
def m_block_Put (a0 : List S_api_Partial) (a1 : Int) (a2 : List UInt8) (a3 : S_api_Block) (a4 : List UInt8) (a5 : Int) : Option ((List S_api_Partial) × (List UInt8) × Bool × Int) :=
  bnd (bnd (m_block_Valid a0) fun y19 =>
  letm (!y19) fun x24 =>
  (cond x24 (some (true))
   (letm (decide (a1 < 0)) fun x27 =>
  (cond x27 (some (true))
   (letm (decide (65536 < a1)) fun x30 =>
  (cond x30 (some (true))
   (letm (decide (4096 < (a2.length : Int))) fun x33 =>
  (cond x33 (some (true))
   (bnd (m_block_sound (S_api_Block.mk a3.Num a3.More a3.Size)) fun y36 =>
  letm (!y36) fun x41 =>
  (cond x41 (some (true))
   (letm (decide (a5 < 0)) fun x44 =>
  (cond x44 (some (true))
   (letm (decide (1073741824 < a5)) fun x47 =>
  some (x47))))))))))))) : Option (Bool)) fun y15 =>
  (cond y15 (some ([], [], false, 1))
   (bnd (m_block_length a3.Size) fun y49 =>
  bnd ((cond a3.More (letm ((a4.length : Int) != y49) fun x60 =>
  (cond x60 (some (true))
   (letm (!a3.More) fun x63 =>
  (cond x63 (letm (decide (y49 < (a4.length : Int))) fun x66 =>
  (cond x66 (some (true))
   (letm ((a4.length : Int) == 0) fun x69 =>
  (cond x69 (letm (decide (0 < a3.Num)) fun x72 =>
  some (x72))
   (some (false))))))
   (some (false))))))
   (letm (!a3.More) fun x73 =>
  (cond x73 (letm (decide (y49 < (a4.length : Int))) fun x76 =>
  (cond x76 (some (true))
   (letm ((a4.length : Int) == 0) fun x79 =>
  (cond x79 (letm (decide (0 < a3.Num)) fun x82 =>
  some (x82))
   (some (false))))))
   (some (false))))) : Option (Bool)) fun y54 =>
  (cond y54 (some ([], [], false, 4))
   (letm (a3.Num == 0) fun x84 =>
  bnd (m_block_kept a0 a1 a2 x84 a5) fun y85 =>
  bnd (m_block_find y85 a1 a2) fun y94 =>
  letm (decide (0 < a3.Num)) fun x99 =>
  bndS ((cond x99 (bnd (letm (decide (y94 < 0)) fun x116 =>
  (cond x116 (some (true))
   (bnd (idx y85 y94) fun x133 =>
  letm (w64 (a3.Num * y49)) fun x174 =>
  letm ((x133.Data.length : Int) != x174) fun x178 =>
  some (x178))) : Option (Bool)) fun y111 =>
  (cond y111 (some (Sum.inl ([], [], false, 15)))
   (bnd (idx y85 y94) fun x189 =>
  some (Sum.inr x189.Data))))
   (some (Sum.inr ([])))) : Option (((List S_api_Partial) × (List UInt8) × Bool × Int) ⊕ (List UInt8))) (fun q => q) fun y100 =>
  letm (w64 ((y100.length : Int) + (a4.length : Int))) fun x198 =>
  letm (decide (4096 < x198)) fun x199 =>
  (cond x199 (some ([], [], false, 8))
   (bnd (m_bytes_Clone y100) fun y201 =>
  bnd (app y201 a4) fun x210 =>
  bnd (letm (!a3.More) fun x221 =>
  (cond x221 (letm (decide (0 ≤ y94)) fun x224 =>
  some (x224))
   (some (false))) : Option (Bool)) fun y217 =>
  (cond y217 (bnd (cut y85 0 y94) fun x228 =>
  letm (w64 (y94 + 1)) fun x231 =>
  bnd (cut y85 x231 y85.length) fun x234 =>
  bnd (app x228 x234) fun x244 =>
  some (x244, x210, true, 0))
   (letm (!a3.More) fun x262 =>
  (cond x262 (some (y85, x210, true, 0))
   (letm (decide (0 ≤ y94)) fun x264 =>
  (cond x264 (letm (w64 (a5 + 128)) fun x266 =>
  bnd (idx y85 y94) fun x271 =>
  letm (y85.set (y94.toNat) (S_api_Partial.mk x271.Peer x271.Key x210 x271.Until)) fun x281 =>
  bnd (idx x281 y94) fun x289 =>
  letm (x281.set (y94.toNat) (S_api_Partial.mk x289.Peer x289.Key x289.Data x266)) fun x298 =>
  some (x298, [], false, 0))
   (letm (decide (4 ≤ (y85.length : Int))) fun x302 =>
  (cond x302 (some ([], [], false, 16))
   (bnd (m_bytes_Clone a2) fun y304 =>
  letm (w64 (a5 + 128)) fun x312 =>
  bnd (app y85 ([(S_api_Partial.mk a1 y304 x210 x312)])) fun x320 =>
  some (x320, [], false, 0)))))))))))))))
set_option maxRecDepth 100000 in
set_option maxHeartbeats 2000000 in
theorem c_block_Put {lab : Lab} {w : World} {a0 : List S_api_Partial} {a1 : Int} {a2 : List UInt8} {a3 : S_api_Block} {a4 : List UInt8} {a5 : Int} {r : (List S_api_Partial) × (List UInt8) × Bool × Int} (hm : m_block_Put a0 a1 a2 a3 a4 a5 = some r) (t : Top lab w) {oa1 : Option Addr} {c2 : Nat} (s3 : SL R_api_Partial lab w oa1 c2 a0) {oa4 : Option Addr} {c5 : Nat} (s6 : SL Rep.u8 lab w oa4 c5 a2) {oa7 : Option Addr} {c8 : Nat} (s9 : SL Rep.u8 lab w oa7 c8 a4) : Calls Try.prog 17 [.slice oa1 a0.length c2, .int .i64 a1, .slice oa4 a2.length c5, .agg ([.int .i64 a3.Num, .bool a3.More, .int .i64 a3.Size] : List Value).toArray, .slice oa7 a4.length c8, .int .i64 a5].toArray w (fun e w' => ∃ (oa0_0 : Option Addr) (c0_0 : Nat) (oa1_0 : Option Addr) (c1_0 : Nat), e = .returned (.tuple [.slice oa0_0 r.1.length c0_0, .slice oa1_0 r.2.1.length c1_0, .bool r.2.2.1, .int .i64 r.2.2.2].toArray) ∧ Ste lab 0 w lab w' ∧ SL R_api_Partial lab w' oa0_0 c0_0 r.1 ∧ SL Rep.u8 lab w' oa1_0 c1_0 r.2.1 ∧ True) := by
  refine enter Try.func17 rfl 177 rfl rfl ?_
  have cx := Cx.start t
  replace s3 := s3.keep Keeps.lin
  replace s6 := s6.keep Keeps.lin
  replace s9 := s9.keep Keeps.lin
  refine CW.sub (G := [(0, .slice oa1 a0.length c2), (1, .int .i64 a1), (2, .slice oa4 a2.length c5), (3, .agg ([.int .i64 a3.Num, .bool a3.More, .int .i64 a3.Size] : List Value).toArray), (4, .slice oa7 a4.length c8), (5, .int .i64 a5)]) ⟨rfl, rfl, rfl, rfl, rfl, rfl, trivial⟩ ?_
  unfold m_block_Put at hm
  refine CW.seq ?_
  refine CW.region ?_
  refine LW.box 19 [.int .i64 a3.Num, .bool a3.More, .int .i64 a3.Size] rfl rfl cx.top wn rfl ?_
  intro g10 lab11 w12 e13 b14
  replace cx := cx.step e13 rfl
  replace s3 := s3.step e13
  replace s6 := s6.step e13
  replace s9 := s9.step e13
  clear e13
  refine LW.assign wn rfl rfl ?_
  refine LW.assign wn rfl rfl ?_
  refine LW.assign wn rfl rfl ?_
  refine LW.assign wn rfl rfl ?_
  refine LW.nil ?_
  refine EW.seq_n ?_
  refine CW.seq ?_
  refine CW.seq ?_
  obtain ⟨y15, h16, hm_⟩ := bnd_some hm; clear hm
  refine CW.join_any (fun F_ w17 => ∃ (lab18 : Lab) , F_ = [(0, .slice oa1 a0.length c2), (1, .int .i64 a1), (2, .slice oa4 a2.length c5), (4, .slice oa7 a4.length c8), (5, .int .i64 a5), (9, .pointer (some ⟨g10, 0, none⟩)), (47, .bool y15)] ∧ Cx [] w lab w17 lab18 ∧ SL R_api_Partial lab18 w17 oa1 c2 a0 ∧ SL Rep.u8 lab18 w17 oa4 c5 a2 ∧ SL Rep.u8 lab18 w17 oa7 c8 a4 ∧ Box lab18 w17 19 g10 26 [.int .i64 a3.Num, .bool a3.More, .int .i64 a3.Size] ∧ True) ?_ ?_
  · have hm := h16; clear h16
    refine CW.region ?_
    refine LW.move wn rfl rfl ?_
    obtain ⟨y19, h23, hm_⟩ := bnd_some hm; clear hm; have hm := hm_; clear hm_
    refine LW.call kFn_14 (c_block_Valid h23 cx.top s3) wn rfl rfl ?_
    rintro _ w20 ⟨rfl, e21, _⟩; refine ⟨_, rfl, ?_⟩
    replace cx := cx.step e21 rfl
    replace s3 := s3.step e21
    replace s6 := s6.step e21
    replace s9 := s9.step e21
    replace b14 := b14.step e21 rfl
    clear e21
    refine LW.not hm wn rfl rfl ?_; clear hm; intro x24 hm
    refine LW.move wn rfl rfl ?_
    rcases Bool.eq_false_or_eq_true x24 with hb26 | hb26
    · replace hm := cond_t hm hb26
      refine LW.skip 22 rfl (bk rfl hb26) rfl rfl ?_
      refine LW.skip 22 rfl (bk rfl hb26) rfl rfl ?_
      refine LW.pick_t wn rfl (bk rfl hb26) rfl ?_
      refine LW.move wn rfl rfl ?_
      refine LW.skip 26 rfl rfl rfl rfl ?_
      refine LW.skip 26 rfl rfl rfl rfl ?_
      refine LW.pick_t wn rfl rfl rfl ?_
      refine LW.move wn rfl rfl ?_
      refine LW.skip 30 rfl rfl rfl rfl ?_
      refine LW.skip 30 rfl rfl rfl rfl ?_
      refine LW.skip 30 rfl rfl rfl rfl ?_
      refine LW.pick_t wn rfl rfl rfl ?_
      refine LW.move wn rfl rfl ?_
      refine LW.skip 35 rfl rfl rfl rfl ?_
      refine LW.skip 35 rfl rfl rfl rfl ?_
      refine LW.skip 35 rfl rfl rfl rfl ?_
      refine LW.pick_t wn rfl rfl rfl ?_
      refine LW.move wn rfl rfl ?_
      refine LW.skip 40 rfl rfl rfl rfl ?_
      refine LW.skip 40 rfl rfl rfl rfl ?_
      refine LW.pick_t wn rfl rfl rfl ?_
      refine LW.move wn rfl rfl ?_
      refine LW.skip 44 rfl rfl rfl rfl ?_
      refine LW.skip 44 rfl rfl rfl rfl ?_
      refine LW.pick_t wn rfl rfl rfl ?_
      refine LW.nil ?_
      obtain rfl := Option.some.inj hm
      refine EW.sub (G := [(0, .slice oa1 a0.length c2), (1, .int .i64 a1), (2, .slice oa4 a2.length c5), (4, .slice oa7 a4.length c8), (5, .int .i64 a5), (9, .pointer (some ⟨g10, 0, none⟩)), (47, .bool true)]) ⟨rfl, rfl, rfl, rfl, rfl, rfl, rfl, trivial⟩ ?_
      exact EW.join_n ⟨_, rfl, cx, s3, s6, s9, b14, trivial⟩
    · replace hm := cond_f hm hb26
      refine LW.move (ws 22 rfl (bk rfl hb26)) rfl rfl ?_
      refine LW.lss hm (ws 22 rfl (bk rfl hb26)) rfl rfl rfl ?_; clear hm; intro x27 hm
      refine LW.pick_f wn rfl (bk rfl hb26) rfl ?_
      refine LW.move wn rfl rfl ?_
      rcases Bool.eq_false_or_eq_true x27 with hb29 | hb29
      · replace hm := cond_t hm hb29
        refine LW.skip 26 rfl (bk rfl hb29) rfl rfl ?_
        refine LW.skip 26 rfl (bk rfl hb29) rfl rfl ?_
        refine LW.pick_t wn rfl (bk rfl hb29) rfl ?_
        refine LW.move wn rfl rfl ?_
        refine LW.skip 30 rfl rfl rfl rfl ?_
        refine LW.skip 30 rfl rfl rfl rfl ?_
        refine LW.skip 30 rfl rfl rfl rfl ?_
        refine LW.pick_t wn rfl rfl rfl ?_
        refine LW.move wn rfl rfl ?_
        refine LW.skip 35 rfl rfl rfl rfl ?_
        refine LW.skip 35 rfl rfl rfl rfl ?_
        refine LW.skip 35 rfl rfl rfl rfl ?_
        refine LW.pick_t wn rfl rfl rfl ?_
        refine LW.move wn rfl rfl ?_
        refine LW.skip 40 rfl rfl rfl rfl ?_
        refine LW.skip 40 rfl rfl rfl rfl ?_
        refine LW.pick_t wn rfl rfl rfl ?_
        refine LW.move wn rfl rfl ?_
        refine LW.skip 44 rfl rfl rfl rfl ?_
        refine LW.skip 44 rfl rfl rfl rfl ?_
        refine LW.pick_t wn rfl rfl rfl ?_
        refine LW.nil ?_
        obtain rfl := Option.some.inj hm
        refine EW.sub (G := [(0, .slice oa1 a0.length c2), (1, .int .i64 a1), (2, .slice oa4 a2.length c5), (4, .slice oa7 a4.length c8), (5, .int .i64 a5), (9, .pointer (some ⟨g10, 0, none⟩)), (47, .bool true)]) ⟨rfl, rfl, rfl, rfl, rfl, rfl, rfl, trivial⟩ ?_
        exact EW.join_n ⟨_, rfl, cx, s3, s6, s9, b14, trivial⟩
      · replace hm := cond_f hm hb29
        refine LW.move (ws 26 rfl (bk rfl hb29)) rfl rfl ?_
        refine LW.gtr hm (ws 26 rfl (bk rfl hb29)) rfl rfl rfl ?_; clear hm; intro x30 hm
        refine LW.pick_f wn rfl (bk rfl hb29) rfl ?_
        refine LW.move wn rfl rfl ?_
        rcases Bool.eq_false_or_eq_true x30 with hb32 | hb32
        · replace hm := cond_t hm hb32
          refine LW.skip 30 rfl (bk rfl hb32) rfl rfl ?_
          refine LW.skip 30 rfl (bk rfl hb32) rfl rfl ?_
          refine LW.skip 30 rfl (bk rfl hb32) rfl rfl ?_
          refine LW.pick_t wn rfl (bk rfl hb32) rfl ?_
          refine LW.move wn rfl rfl ?_
          refine LW.skip 35 rfl rfl rfl rfl ?_
          refine LW.skip 35 rfl rfl rfl rfl ?_
          refine LW.skip 35 rfl rfl rfl rfl ?_
          refine LW.pick_t wn rfl rfl rfl ?_
          refine LW.move wn rfl rfl ?_
          refine LW.skip 40 rfl rfl rfl rfl ?_
          refine LW.skip 40 rfl rfl rfl rfl ?_
          refine LW.pick_t wn rfl rfl rfl ?_
          refine LW.move wn rfl rfl ?_
          refine LW.skip 44 rfl rfl rfl rfl ?_
          refine LW.skip 44 rfl rfl rfl rfl ?_
          refine LW.pick_t wn rfl rfl rfl ?_
          refine LW.nil ?_
          obtain rfl := Option.some.inj hm
          refine EW.sub (G := [(0, .slice oa1 a0.length c2), (1, .int .i64 a1), (2, .slice oa4 a2.length c5), (4, .slice oa7 a4.length c8), (5, .int .i64 a5), (9, .pointer (some ⟨g10, 0, none⟩)), (47, .bool true)]) ⟨rfl, rfl, rfl, rfl, rfl, rfl, rfl, trivial⟩ ?_
          exact EW.join_n ⟨_, rfl, cx, s3, s6, s9, b14, trivial⟩
        · replace hm := cond_f hm hb32
          refine LW.move (ws 30 rfl (bk rfl hb32)) rfl rfl ?_
          refine LW.len kUnd_24 (ws 30 rfl (bk rfl hb32)) rfl rfl ?_
          refine LW.gtr hm (ws 30 rfl (bk rfl hb32)) rfl rfl rfl ?_; clear hm; intro x33 hm
          refine LW.pick_f wn rfl (bk rfl hb32) rfl ?_
          refine LW.move wn rfl rfl ?_
          rcases Bool.eq_false_or_eq_true x33 with hb35 | hb35
          · replace hm := cond_t hm hb35
            refine LW.skip 35 rfl (bk rfl hb35) rfl rfl ?_
            refine LW.skip 35 rfl (bk rfl hb35) rfl rfl ?_
            refine LW.skip 35 rfl (bk rfl hb35) rfl rfl ?_
            refine LW.pick_t wn rfl (bk rfl hb35) rfl ?_
            refine LW.move wn rfl rfl ?_
            refine LW.skip 40 rfl rfl rfl rfl ?_
            refine LW.skip 40 rfl rfl rfl rfl ?_
            refine LW.pick_t wn rfl rfl rfl ?_
            refine LW.move wn rfl rfl ?_
            refine LW.skip 44 rfl rfl rfl rfl ?_
            refine LW.skip 44 rfl rfl rfl rfl ?_
            refine LW.pick_t wn rfl rfl rfl ?_
            refine LW.nil ?_
            obtain rfl := Option.some.inj hm
            refine EW.sub (G := [(0, .slice oa1 a0.length c2), (1, .int .i64 a1), (2, .slice oa4 a2.length c5), (4, .slice oa7 a4.length c8), (5, .int .i64 a5), (9, .pointer (some ⟨g10, 0, none⟩)), (47, .bool true)]) ⟨rfl, rfl, rfl, rfl, rfl, rfl, rfl, trivial⟩ ?_
            exact EW.join_n ⟨_, rfl, cx, s3, s6, s9, b14, trivial⟩
          · replace hm := cond_f hm hb35
            refine LW.loadBn [.int .i64 a3.Num, .bool a3.More, .int .i64 a3.Size] b14 kAgg_26 rfl rfl (ws 35 rfl (bk rfl hb35)) rfl rfl ?_
            obtain ⟨y36, h40, hm_⟩ := bnd_some hm; clear hm; have hm := hm_; clear hm_
            refine LW.call kFn_30 (c_block_sound h40 cx.top) (ws 35 rfl (bk rfl hb35)) rfl rfl ?_
            rintro _ w37 ⟨rfl, e38, _⟩; refine ⟨_, rfl, ?_⟩
            replace cx := cx.step e38 rfl
            replace s3 := s3.step e38
            replace s6 := s6.step e38
            replace s9 := s9.step e38
            replace b14 := b14.step e38 rfl
            clear e38
            refine LW.not hm (ws 35 rfl (bk rfl hb35)) rfl rfl ?_; clear hm; intro x41 hm
            refine LW.pick_f wn rfl (bk rfl hb35) rfl ?_
            refine LW.move wn rfl rfl ?_
            rcases Bool.eq_false_or_eq_true x41 with hb43 | hb43
            · replace hm := cond_t hm hb43
              refine LW.skip 40 rfl (bk rfl hb43) rfl rfl ?_
              refine LW.skip 40 rfl (bk rfl hb43) rfl rfl ?_
              refine LW.pick_t wn rfl (bk rfl hb43) rfl ?_
              refine LW.move wn rfl rfl ?_
              refine LW.skip 44 rfl rfl rfl rfl ?_
              refine LW.skip 44 rfl rfl rfl rfl ?_
              refine LW.pick_t wn rfl rfl rfl ?_
              refine LW.nil ?_
              obtain rfl := Option.some.inj hm
              refine EW.sub (G := [(0, .slice oa1 a0.length c2), (1, .int .i64 a1), (2, .slice oa4 a2.length c5), (4, .slice oa7 a4.length c8), (5, .int .i64 a5), (9, .pointer (some ⟨g10, 0, none⟩)), (47, .bool true)]) ⟨rfl, rfl, rfl, rfl, rfl, rfl, rfl, trivial⟩ ?_
              exact EW.join_n ⟨_, rfl, cx, s3, s6, s9, b14, trivial⟩
            · replace hm := cond_f hm hb43
              refine LW.move (ws 40 rfl (bk rfl hb43)) rfl rfl ?_
              refine LW.lss hm (ws 40 rfl (bk rfl hb43)) rfl rfl rfl ?_; clear hm; intro x44 hm
              refine LW.pick_f wn rfl (bk rfl hb43) rfl ?_
              refine LW.move wn rfl rfl ?_
              rcases Bool.eq_false_or_eq_true x44 with hb46 | hb46
              · replace hm := cond_t hm hb46
                refine LW.skip 44 rfl (bk rfl hb46) rfl rfl ?_
                refine LW.skip 44 rfl (bk rfl hb46) rfl rfl ?_
                refine LW.pick_t wn rfl (bk rfl hb46) rfl ?_
                refine LW.nil ?_
                obtain rfl := Option.some.inj hm
                refine EW.sub (G := [(0, .slice oa1 a0.length c2), (1, .int .i64 a1), (2, .slice oa4 a2.length c5), (4, .slice oa7 a4.length c8), (5, .int .i64 a5), (9, .pointer (some ⟨g10, 0, none⟩)), (47, .bool true)]) ⟨rfl, rfl, rfl, rfl, rfl, rfl, rfl, trivial⟩ ?_
                exact EW.join_n ⟨_, rfl, cx, s3, s6, s9, b14, trivial⟩
              · replace hm := cond_f hm hb46
                refine LW.move (ws 44 rfl (bk rfl hb46)) rfl rfl ?_
                refine LW.gtr hm (ws 44 rfl (bk rfl hb46)) rfl rfl rfl ?_; clear hm; intro x47 hm
                refine LW.pick_f wn rfl (bk rfl hb46) rfl ?_
                refine LW.nil ?_
                obtain rfl := Option.some.inj hm
                refine EW.sub (G := [(0, .slice oa1 a0.length c2), (1, .int .i64 a1), (2, .slice oa4 a2.length c5), (4, .slice oa7 a4.length c8), (5, .int .i64 a5), (9, .pointer (some ⟨g10, 0, none⟩)), (47, .bool x47)]) ⟨rfl, rfl, rfl, rfl, rfl, rfl, rfl, trivial⟩ ?_
                exact EW.join_n ⟨_, rfl, cx, s3, s6, s9, b14, trivial⟩
  · rintro _ w17 ⟨lab18, rfl, cx, s3, s6, s9, b14, _⟩
    have hm := hm_; clear hm_
    refine EW.seq_n ?_
    refine CW.cond (b := y15) rfl (fun hb48 => ?_) (fun hb48 => ?_)
    · replace hm := cond_t hm hb48
      refine CW.seq ?_
      refine CW.region ?_
      refine LW.assign wn rfl rfl ?_
      refine LW.assign wn rfl rfl ?_
      refine LW.assign wn rfl rfl ?_
      refine LW.assign wn rfl rfl ?_
      refine LW.nil ?_
      refine EW.seq_n ?_
      refine CW.ret ?_
      refine EW.seq_r ?_
      obtain rfl := Option.some.inj hm
      exact EW.rets (vs := [.slice none 0 0, .slice none 0 0, .bool false, .int .i64 1]) rfl ⟨rfl, rfl, rfl, rfl, trivial⟩ rfl ⟨none, 0, none, 0, rfl, (cx.ste t), SL.nil, SL.nil, trivial⟩
    · replace hm := cond_f hm hb48
      refine CW.skip ?_
      refine EW.seq_n ?_
      refine CW.seq ?_
      refine CW.region ?_
      refine LW.fldB 2 kFld_26_2 rfl wn rfl rfl ?_
      refine LW.loadB1 b14 kOne_3 rfl wn rfl rfl ?_
      obtain ⟨y49, h53, hm_⟩ := bnd_some hm; clear hm; have hm := hm_; clear hm_
      refine LW.call kFn_31 (c_block_length h53 cx.top) wn rfl rfl ?_
      rintro _ w50 ⟨rfl, e51, _⟩; refine ⟨_, rfl, ?_⟩
      replace cx := cx.step e51 rfl
      replace s3 := s3.step e51
      replace s6 := s6.step e51
      replace s9 := s9.step e51
      replace b14 := b14.step e51 rfl
      clear e51
      refine LW.assign wn rfl rfl ?_
      refine LW.nil ?_
      refine EW.seq_n ?_
      refine CW.seq ?_
      refine CW.seq ?_
      obtain ⟨y54, h55, hm_⟩ := bnd_some hm; clear hm
      refine CW.join_any (fun F_ w56 => ∃ (lab57 : Lab) , F_ = [(0, .slice oa1 a0.length c2), (1, .int .i64 a1), (2, .slice oa4 a2.length c5), (4, .slice oa7 a4.length c8), (5, .int .i64 a5), (9, .pointer (some ⟨g10, 0, none⟩)), (16, .int .i64 y49), (79, .bool y54)] ∧ Cx [] w lab w56 lab57 ∧ SL R_api_Partial lab57 w56 oa1 c2 a0 ∧ SL Rep.u8 lab57 w56 oa4 c5 a2 ∧ SL Rep.u8 lab57 w56 oa7 c8 a4 ∧ Box lab57 w56 19 g10 26 [.int .i64 a3.Num, .bool a3.More, .int .i64 a3.Size] ∧ True) ?_ ?_
      · have hm := h55; clear h55
        refine CW.region ?_
        refine LW.fldB 1 kFld_26_1 rfl wn rfl rfl ?_
        refine LW.loadB1 b14 kOne_4 rfl wn rfl rfl ?_
        refine LW.move wn rfl rfl ?_
        rcases Bool.eq_false_or_eq_true a3.More with hb59 | hb59
        · replace hm := cond_t hm hb59
          refine LW.move (ws 53 rfl (bk rfl hb59)) rfl rfl ?_
          refine LW.len kUnd_24 (ws 53 rfl (bk rfl hb59)) rfl rfl ?_
          refine LW.move (ws 53 rfl (bk rfl hb59)) rfl rfl ?_
          refine LW.neq hm (ws 53 rfl (bk rfl hb59)) rfl rfl rfl ?_; clear hm; intro x60 hm
          refine LW.pick_t wn rfl (bk rfl hb59) rfl ?_
          refine LW.move wn rfl rfl ?_
          rcases Bool.eq_false_or_eq_true x60 with hb62 | hb62
          · replace hm := cond_t hm hb62
            refine LW.skip 59 rfl (bk rfl hb62) rfl rfl ?_
            refine LW.skip 59 rfl (bk rfl hb62) rfl rfl ?_
            refine LW.skip 59 rfl (bk rfl hb62) rfl rfl ?_
            refine LW.skip 59 rfl (bk rfl hb62) rfl rfl ?_
            refine LW.skipU 63 rfl rfl rfl ?_
            refine LW.skipU 63 rfl rfl rfl ?_
            refine LW.skipU 63 rfl rfl rfl ?_
            refine LW.skipU 63 rfl rfl rfl ?_
            refine LW.skipU 63 rfl rfl rfl ?_
            refine LW.skipU 68 rfl rfl rfl ?_
            refine LW.skipU 68 rfl rfl rfl ?_
            refine LW.skipU 68 rfl rfl rfl ?_
            refine LW.skipU 68 rfl rfl rfl ?_
            refine LW.skipU 72 rfl rfl rfl ?_
            refine LW.skipU 72 rfl rfl rfl ?_
            refine LW.skipU 72 rfl rfl rfl ?_
            refine LW.skipU 68 rfl rfl rfl ?_
            refine LW.skipU 63 rfl rfl rfl ?_
            refine LW.skip 59 rfl (bk rfl hb62) rfl rfl ?_
            refine LW.pick_t wn rfl (bk rfl hb62) rfl ?_
            refine LW.nil ?_
            obtain rfl := Option.some.inj hm
            refine EW.sub (G := [(0, .slice oa1 a0.length c2), (1, .int .i64 a1), (2, .slice oa4 a2.length c5), (4, .slice oa7 a4.length c8), (5, .int .i64 a5), (9, .pointer (some ⟨g10, 0, none⟩)), (16, .int .i64 y49), (79, .bool true)]) ⟨rfl, rfl, rfl, rfl, rfl, rfl, rfl, rfl, trivial⟩ ?_
            exact EW.join_n ⟨_, rfl, cx, s3, s6, s9, b14, trivial⟩
          · replace hm := cond_f hm hb62
            refine LW.fldB 1 kFld_26_1 rfl (ws 59 rfl (bk rfl hb62)) rfl rfl ?_
            refine LW.loadB1 b14 kOne_4 rfl (ws 59 rfl (bk rfl hb62)) rfl rfl ?_
            refine LW.not hm (ws 59 rfl (bk rfl hb62)) rfl rfl ?_; clear hm; intro x63 hm
            refine LW.move (ws 59 rfl (bk rfl hb62)) rfl rfl ?_
            rcases Bool.eq_false_or_eq_true x63 with hb65 | hb65
            · replace hm := cond_t hm hb65
              refine LW.move (ws 63 rfl (bk rfl hb65)) rfl rfl ?_
              refine LW.len kUnd_24 (ws 63 rfl (bk rfl hb65)) rfl rfl ?_
              refine LW.move (ws 63 rfl (bk rfl hb65)) rfl rfl ?_
              refine LW.gtr hm (ws 63 rfl (bk rfl hb65)) rfl rfl rfl ?_; clear hm; intro x66 hm
              refine LW.move (ws 63 rfl (bk rfl hb65)) rfl rfl ?_
              rcases Bool.eq_false_or_eq_true x66 with hb68 | hb68
              · replace hm := cond_t hm hb68
                refine LW.skip 68 rfl (bk rfl hb68) rfl rfl ?_
                refine LW.skip 68 rfl (bk rfl hb68) rfl rfl ?_
                refine LW.skip 68 rfl (bk rfl hb68) rfl rfl ?_
                refine LW.skip 68 rfl (bk rfl hb68) rfl rfl ?_
                refine LW.skipU 72 rfl rfl rfl ?_
                refine LW.skipU 72 rfl rfl rfl ?_
                refine LW.skipU 72 rfl rfl rfl ?_
                refine LW.skip 68 rfl (bk rfl hb68) rfl rfl ?_
                refine LW.pick_t (ws 63 rfl (bk rfl hb65)) rfl (bk rfl hb68) rfl ?_
                refine LW.pick_t (ws 59 rfl (bk rfl hb62)) rfl (bk rfl hb65) rfl ?_
                refine LW.pick_f wn rfl (bk rfl hb62) rfl ?_
                refine LW.nil ?_
                obtain rfl := Option.some.inj hm
                refine EW.sub (G := [(0, .slice oa1 a0.length c2), (1, .int .i64 a1), (2, .slice oa4 a2.length c5), (4, .slice oa7 a4.length c8), (5, .int .i64 a5), (9, .pointer (some ⟨g10, 0, none⟩)), (16, .int .i64 y49), (79, .bool true)]) ⟨rfl, rfl, rfl, rfl, rfl, rfl, rfl, rfl, trivial⟩ ?_
                exact EW.join_n ⟨_, rfl, cx, s3, s6, s9, b14, trivial⟩
              · replace hm := cond_f hm hb68
                refine LW.move (ws 68 rfl (bk rfl hb68)) rfl rfl ?_
                refine LW.len kUnd_24 (ws 68 rfl (bk rfl hb68)) rfl rfl ?_
                refine LW.eql hm (ws 68 rfl (bk rfl hb68)) rfl rfl rfl ?_; clear hm; intro x69 hm
                refine LW.move (ws 68 rfl (bk rfl hb68)) rfl rfl ?_
                rcases Bool.eq_false_or_eq_true x69 with hb71 | hb71
                · replace hm := cond_t hm hb71
                  refine LW.fldB 0 kFld_26_0 rfl (ws 72 rfl (bk rfl hb71)) rfl rfl ?_
                  refine LW.loadB1 b14 kOne_3 rfl (ws 72 rfl (bk rfl hb71)) rfl rfl ?_
                  refine LW.gtr hm (ws 72 rfl (bk rfl hb71)) rfl rfl rfl ?_; clear hm; intro x72 hm
                  refine LW.pick_t (ws 68 rfl (bk rfl hb68)) rfl (bk rfl hb71) rfl ?_
                  refine LW.pick_f (ws 63 rfl (bk rfl hb65)) rfl (bk rfl hb68) rfl ?_
                  refine LW.pick_t (ws 59 rfl (bk rfl hb62)) rfl (bk rfl hb65) rfl ?_
                  refine LW.pick_f wn rfl (bk rfl hb62) rfl ?_
                  refine LW.nil ?_
                  obtain rfl := Option.some.inj hm
                  refine EW.sub (G := [(0, .slice oa1 a0.length c2), (1, .int .i64 a1), (2, .slice oa4 a2.length c5), (4, .slice oa7 a4.length c8), (5, .int .i64 a5), (9, .pointer (some ⟨g10, 0, none⟩)), (16, .int .i64 y49), (79, .bool x72)]) ⟨rfl, rfl, rfl, rfl, rfl, rfl, rfl, rfl, trivial⟩ ?_
                  exact EW.join_n ⟨_, rfl, cx, s3, s6, s9, b14, trivial⟩
                · replace hm := cond_f hm hb71
                  refine LW.skip 72 rfl (bk rfl hb71) rfl rfl ?_
                  refine LW.skip 72 rfl (bk rfl hb71) rfl rfl ?_
                  refine LW.skip 72 rfl (bk rfl hb71) rfl rfl ?_
                  refine LW.pick_f (ws 68 rfl (bk rfl hb68)) rfl (bk rfl hb71) rfl ?_
                  refine LW.pick_f (ws 63 rfl (bk rfl hb65)) rfl (bk rfl hb68) rfl ?_
                  refine LW.pick_t (ws 59 rfl (bk rfl hb62)) rfl (bk rfl hb65) rfl ?_
                  refine LW.pick_f wn rfl (bk rfl hb62) rfl ?_
                  refine LW.nil ?_
                  obtain rfl := Option.some.inj hm
                  refine EW.sub (G := [(0, .slice oa1 a0.length c2), (1, .int .i64 a1), (2, .slice oa4 a2.length c5), (4, .slice oa7 a4.length c8), (5, .int .i64 a5), (9, .pointer (some ⟨g10, 0, none⟩)), (16, .int .i64 y49), (79, .bool false)]) ⟨rfl, rfl, rfl, rfl, rfl, rfl, rfl, rfl, trivial⟩ ?_
                  exact EW.join_n ⟨_, rfl, cx, s3, s6, s9, b14, trivial⟩
            · replace hm := cond_f hm hb65
              refine LW.skip 63 rfl (bk rfl hb65) rfl rfl ?_
              refine LW.skip 63 rfl (bk rfl hb65) rfl rfl ?_
              refine LW.skip 63 rfl (bk rfl hb65) rfl rfl ?_
              refine LW.skip 63 rfl (bk rfl hb65) rfl rfl ?_
              refine LW.skip 63 rfl (bk rfl hb65) rfl rfl ?_
              refine LW.skipU 68 rfl rfl rfl ?_
              refine LW.skipU 68 rfl rfl rfl ?_
              refine LW.skipU 68 rfl rfl rfl ?_
              refine LW.skipU 68 rfl rfl rfl ?_
              refine LW.skipU 72 rfl rfl rfl ?_
              refine LW.skipU 72 rfl rfl rfl ?_
              refine LW.skipU 72 rfl rfl rfl ?_
              refine LW.skipU 68 rfl rfl rfl ?_
              refine LW.skip 63 rfl (bk rfl hb65) rfl rfl ?_
              refine LW.pick_f (ws 59 rfl (bk rfl hb62)) rfl (bk rfl hb65) rfl ?_
              refine LW.pick_f wn rfl (bk rfl hb62) rfl ?_
              refine LW.nil ?_
              obtain rfl := Option.some.inj hm
              refine EW.sub (G := [(0, .slice oa1 a0.length c2), (1, .int .i64 a1), (2, .slice oa4 a2.length c5), (4, .slice oa7 a4.length c8), (5, .int .i64 a5), (9, .pointer (some ⟨g10, 0, none⟩)), (16, .int .i64 y49), (79, .bool false)]) ⟨rfl, rfl, rfl, rfl, rfl, rfl, rfl, rfl, trivial⟩ ?_
              exact EW.join_n ⟨_, rfl, cx, s3, s6, s9, b14, trivial⟩
        · replace hm := cond_f hm hb59
          refine LW.skip 53 rfl (bk rfl hb59) rfl rfl ?_
          refine LW.skip 53 rfl (bk rfl hb59) rfl rfl ?_
          refine LW.skip 53 rfl (bk rfl hb59) rfl rfl ?_
          refine LW.skip 53 rfl (bk rfl hb59) rfl rfl ?_
          refine LW.pick_f wn rfl (bk rfl hb59) rfl ?_
          refine LW.move wn rfl rfl ?_
          refine LW.fldB 1 kFld_26_1 rfl (ws 59 rfl rfl) rfl rfl ?_
          refine LW.loadB1 b14 kOne_4 rfl (ws 59 rfl rfl) rfl rfl ?_
          refine LW.not hm (ws 59 rfl rfl) rfl rfl ?_; clear hm; intro x73 hm
          refine LW.move (ws 59 rfl rfl) rfl rfl ?_
          rcases Bool.eq_false_or_eq_true x73 with hb75 | hb75
          · replace hm := cond_t hm hb75
            refine LW.move (ws 63 rfl (bk rfl hb75)) rfl rfl ?_
            refine LW.len kUnd_24 (ws 63 rfl (bk rfl hb75)) rfl rfl ?_
            refine LW.move (ws 63 rfl (bk rfl hb75)) rfl rfl ?_
            refine LW.gtr hm (ws 63 rfl (bk rfl hb75)) rfl rfl rfl ?_; clear hm; intro x76 hm
            refine LW.move (ws 63 rfl (bk rfl hb75)) rfl rfl ?_
            rcases Bool.eq_false_or_eq_true x76 with hb78 | hb78
            · replace hm := cond_t hm hb78
              refine LW.skip 68 rfl (bk rfl hb78) rfl rfl ?_
              refine LW.skip 68 rfl (bk rfl hb78) rfl rfl ?_
              refine LW.skip 68 rfl (bk rfl hb78) rfl rfl ?_
              refine LW.skip 68 rfl (bk rfl hb78) rfl rfl ?_
              refine LW.skipU 72 rfl rfl rfl ?_
              refine LW.skipU 72 rfl rfl rfl ?_
              refine LW.skipU 72 rfl rfl rfl ?_
              refine LW.skip 68 rfl (bk rfl hb78) rfl rfl ?_
              refine LW.pick_t (ws 63 rfl (bk rfl hb75)) rfl (bk rfl hb78) rfl ?_
              refine LW.pick_t (ws 59 rfl rfl) rfl (bk rfl hb75) rfl ?_
              refine LW.pick_f wn rfl rfl rfl ?_
              refine LW.nil ?_
              obtain rfl := Option.some.inj hm
              refine EW.sub (G := [(0, .slice oa1 a0.length c2), (1, .int .i64 a1), (2, .slice oa4 a2.length c5), (4, .slice oa7 a4.length c8), (5, .int .i64 a5), (9, .pointer (some ⟨g10, 0, none⟩)), (16, .int .i64 y49), (79, .bool true)]) ⟨rfl, rfl, rfl, rfl, rfl, rfl, rfl, rfl, trivial⟩ ?_
              exact EW.join_n ⟨_, rfl, cx, s3, s6, s9, b14, trivial⟩
            · replace hm := cond_f hm hb78
              refine LW.move (ws 68 rfl (bk rfl hb78)) rfl rfl ?_
              refine LW.len kUnd_24 (ws 68 rfl (bk rfl hb78)) rfl rfl ?_
              refine LW.eql hm (ws 68 rfl (bk rfl hb78)) rfl rfl rfl ?_; clear hm; intro x79 hm
              refine LW.move (ws 68 rfl (bk rfl hb78)) rfl rfl ?_
              rcases Bool.eq_false_or_eq_true x79 with hb81 | hb81
              · replace hm := cond_t hm hb81
                refine LW.fldB 0 kFld_26_0 rfl (ws 72 rfl (bk rfl hb81)) rfl rfl ?_
                refine LW.loadB1 b14 kOne_3 rfl (ws 72 rfl (bk rfl hb81)) rfl rfl ?_
                refine LW.gtr hm (ws 72 rfl (bk rfl hb81)) rfl rfl rfl ?_; clear hm; intro x82 hm
                refine LW.pick_t (ws 68 rfl (bk rfl hb78)) rfl (bk rfl hb81) rfl ?_
                refine LW.pick_f (ws 63 rfl (bk rfl hb75)) rfl (bk rfl hb78) rfl ?_
                refine LW.pick_t (ws 59 rfl rfl) rfl (bk rfl hb75) rfl ?_
                refine LW.pick_f wn rfl rfl rfl ?_
                refine LW.nil ?_
                obtain rfl := Option.some.inj hm
                refine EW.sub (G := [(0, .slice oa1 a0.length c2), (1, .int .i64 a1), (2, .slice oa4 a2.length c5), (4, .slice oa7 a4.length c8), (5, .int .i64 a5), (9, .pointer (some ⟨g10, 0, none⟩)), (16, .int .i64 y49), (79, .bool x82)]) ⟨rfl, rfl, rfl, rfl, rfl, rfl, rfl, rfl, trivial⟩ ?_
                exact EW.join_n ⟨_, rfl, cx, s3, s6, s9, b14, trivial⟩
              · replace hm := cond_f hm hb81
                refine LW.skip 72 rfl (bk rfl hb81) rfl rfl ?_
                refine LW.skip 72 rfl (bk rfl hb81) rfl rfl ?_
                refine LW.skip 72 rfl (bk rfl hb81) rfl rfl ?_
                refine LW.pick_f (ws 68 rfl (bk rfl hb78)) rfl (bk rfl hb81) rfl ?_
                refine LW.pick_f (ws 63 rfl (bk rfl hb75)) rfl (bk rfl hb78) rfl ?_
                refine LW.pick_t (ws 59 rfl rfl) rfl (bk rfl hb75) rfl ?_
                refine LW.pick_f wn rfl rfl rfl ?_
                refine LW.nil ?_
                obtain rfl := Option.some.inj hm
                refine EW.sub (G := [(0, .slice oa1 a0.length c2), (1, .int .i64 a1), (2, .slice oa4 a2.length c5), (4, .slice oa7 a4.length c8), (5, .int .i64 a5), (9, .pointer (some ⟨g10, 0, none⟩)), (16, .int .i64 y49), (79, .bool false)]) ⟨rfl, rfl, rfl, rfl, rfl, rfl, rfl, rfl, trivial⟩ ?_
                exact EW.join_n ⟨_, rfl, cx, s3, s6, s9, b14, trivial⟩
          · replace hm := cond_f hm hb75
            refine LW.skip 63 rfl (bk rfl hb75) rfl rfl ?_
            refine LW.skip 63 rfl (bk rfl hb75) rfl rfl ?_
            refine LW.skip 63 rfl (bk rfl hb75) rfl rfl ?_
            refine LW.skip 63 rfl (bk rfl hb75) rfl rfl ?_
            refine LW.skip 63 rfl (bk rfl hb75) rfl rfl ?_
            refine LW.skipU 68 rfl rfl rfl ?_
            refine LW.skipU 68 rfl rfl rfl ?_
            refine LW.skipU 68 rfl rfl rfl ?_
            refine LW.skipU 68 rfl rfl rfl ?_
            refine LW.skipU 72 rfl rfl rfl ?_
            refine LW.skipU 72 rfl rfl rfl ?_
            refine LW.skipU 72 rfl rfl rfl ?_
            refine LW.skipU 68 rfl rfl rfl ?_
            refine LW.skip 63 rfl (bk rfl hb75) rfl rfl ?_
            refine LW.pick_f (ws 59 rfl rfl) rfl (bk rfl hb75) rfl ?_
            refine LW.pick_f wn rfl rfl rfl ?_
            refine LW.nil ?_
            obtain rfl := Option.some.inj hm
            refine EW.sub (G := [(0, .slice oa1 a0.length c2), (1, .int .i64 a1), (2, .slice oa4 a2.length c5), (4, .slice oa7 a4.length c8), (5, .int .i64 a5), (9, .pointer (some ⟨g10, 0, none⟩)), (16, .int .i64 y49), (79, .bool false)]) ⟨rfl, rfl, rfl, rfl, rfl, rfl, rfl, rfl, trivial⟩ ?_
            exact EW.join_n ⟨_, rfl, cx, s3, s6, s9, b14, trivial⟩
      · rintro _ w56 ⟨lab57, rfl, cx, s3, s6, s9, b14, _⟩
        have hm := hm_; clear hm_
        refine EW.seq_n ?_
        refine CW.cond (b := y54) rfl (fun hb83 => ?_) (fun hb83 => ?_)
        · replace hm := cond_t hm hb83
          refine CW.seq ?_
          refine CW.region ?_
          refine LW.assign wn rfl rfl ?_
          refine LW.assign wn rfl rfl ?_
          refine LW.assign wn rfl rfl ?_
          refine LW.assign wn rfl rfl ?_
          refine LW.nil ?_
          refine EW.seq_n ?_
          refine CW.ret ?_
          refine EW.seq_r ?_
          obtain rfl := Option.some.inj hm
          exact EW.rets (vs := [.slice none 0 0, .slice none 0 0, .bool false, .int .i64 4]) rfl ⟨rfl, rfl, rfl, rfl, trivial⟩ rfl ⟨none, 0, none, 0, rfl, (cx.ste t), SL.nil, SL.nil, trivial⟩
        · replace hm := cond_f hm hb83
          refine CW.skip ?_
          refine EW.seq_n ?_
          refine CW.seq ?_
          refine CW.region ?_
          refine LW.move wn rfl rfl ?_
          refine LW.move wn rfl rfl ?_
          refine LW.move wn rfl rfl ?_
          refine LW.fldB 0 kFld_26_0 rfl wn rfl rfl ?_
          refine LW.loadB1 b14 kOne_3 rfl wn rfl rfl ?_
          refine LW.eql hm wn rfl rfl rfl ?_; clear hm; intro x84 hm
          refine LW.move wn rfl rfl ?_
          obtain ⟨y85, h89, hm_⟩ := bnd_some hm; clear hm; have hm := hm_; clear hm_
          refine LW.call kFn_32 (co_block_kept (k := 10) h89 cx.top s3 s6) wn rfl rfl ?_
          rintro _ w86 ⟨lab90, oa91, c92, rfl, e87, o93, _⟩; refine ⟨_, rfl, ?_⟩
          replace cx := cx.step e87 rfl
          replace s3 := s3.step e87
          replace s6 := s6.step e87
          replace s9 := s9.step e87
          replace b14 := b14.step e87 rfl
          clear e87
          refine LW.assign wn rfl rfl ?_
          refine LW.nil ?_
          refine EW.seq_n ?_
          refine CW.seq ?_
          refine CW.region ?_
          refine LW.move wn rfl rfl ?_
          refine LW.move wn rfl rfl ?_
          refine LW.move wn rfl rfl ?_
          obtain ⟨y94, h98, hm_⟩ := bnd_some hm; clear hm; have hm := hm_; clear hm_
          refine LW.call kFn_29 (c_block_find h98 (Top.mask (k := 10) cx.top) (Own.view o93) (s6.keep Keeps.mask)) wn rfl rfl ?_
          rintro _ w95 ⟨rfl, e96, _⟩; refine ⟨_, rfl, ?_⟩
          replace e96 := e96.unmask cx.top
          replace cx := cx.step e96 rfl
          replace o93 := o93.step e96 rfl
          replace s6 := s6.step e96
          replace s9 := s9.step e96
          replace b14 := b14.step e96 rfl
          clear e96
          refine LW.assign wn rfl rfl ?_
          refine LW.nil ?_
          refine EW.seq_n ?_
          refine CW.seq ?_
          refine CW.region ?_
          refine LW.assign wn rfl rfl ?_
          refine LW.nil ?_
          refine EW.seq_n ?_
          refine CW.seq ?_
          refine CW.seq ?_
          refine CW.region ?_
          refine LW.fldB 0 kFld_26_0 rfl wn rfl rfl ?_
          refine LW.loadB1 b14 kOne_3 rfl wn rfl rfl ?_
          refine LW.gtr hm wn rfl rfl rfl ?_; clear hm; intro x99 hm
          refine LW.nil ?_
          refine EW.seq_n ?_
          obtain ⟨s101, h102, hs103, hs104⟩ := bndS_some hm; clear hm
          refine CW.join_any (fun F_ w108 => ∃ (y100 : (List UInt8)) (lab109 : Lab) (oa105 : Option Addr) (c106 : Nat), s101 = .inr y100 ∧ F_ = [(0, .slice oa91 y85.length c92), (1, .int .i64 a1), (2, .slice oa4 a2.length c5), (4, .slice oa7 a4.length c8), (5, .int .i64 a5), (9, .pointer (some ⟨g10, 0, none⟩)), (17, .int .i64 y94), (18, .slice oa105 y100.length c106)] ∧ Cx [] w lab w108 lab109 ∧ Own R_api_Partial lab109 w108 10 63 oa91 c92 y85 ∧ SL Rep.u8 lab109 w108 oa4 c5 a2 ∧ SL Rep.u8 lab109 w108 oa7 c8 a4 ∧ Box lab109 w108 19 g10 26 [.int .i64 a3.Num, .bool a3.More, .int .i64 a3.Size] ∧ SL Rep.u8 lab109 w108 oa105 c106 y100 ∧ True) ?_ ?_
          · have hm := h102; clear h102
            refine CW.cond (b := x99) rfl (fun hb110 => ?_) (fun hb110 => ?_)
            · replace hm := cond_t hm hb110
              refine CW.seq ?_
              refine CW.seq ?_
              obtain ⟨y111, h112, hm_⟩ := bnd_some hm; clear hm
              refine CW.join_any (fun F_ w113 => ∃ (lab114 : Lab) , F_ = [(0, .slice oa91 y85.length c92), (1, .int .i64 a1), (2, .slice oa4 a2.length c5), (4, .slice oa7 a4.length c8), (5, .int .i64 a5), (9, .pointer (some ⟨g10, 0, none⟩)), (17, .int .i64 y94), (109, .bool y111)] ∧ Cx [] w lab w113 lab114 ∧ Own R_api_Partial lab114 w113 10 63 oa91 c92 y85 ∧ SL Rep.u8 lab114 w113 oa4 c5 a2 ∧ SL Rep.u8 lab114 w113 oa7 c8 a4 ∧ Box lab114 w113 19 g10 26 [.int .i64 a3.Num, .bool a3.More, .int .i64 a3.Size] ∧ True) ?_ ?_
              · have hm := h112; clear h112
                obtain ⟨x116, hx_x116, hm_⟩ := letm_some hm; clear hm; have hm := hm_; clear hm_
                rcases Bool.eq_false_or_eq_true x116 with hb118 | hb118
                · replace hm := cond_t hm hb118
                  refine CW.sub (G := [(0, .slice oa91 y85.length c92), (1, .int .i64 a1), (2, .slice oa4 a2.length c5), (4, .slice oa7 a4.length c8), (5, .int .i64 a5), (9, .pointer (some ⟨g10, 0, none⟩)), (16, .int .i64 y49), (17, .int .i64 y94)]) ⟨rfl, rfl, rfl, rfl, rfl, rfl, rfl, rfl, trivial⟩ ?_
                  refine CW.drawL (fun i_ => []) (fun i_ => by (try dsimp only); (repeat' split) <;> rfl) kMix_ 15 (by kernel_rfl) cx.top ?_
                  intro w121 e122
                  replace cx := cx.step e122 rfl
                  replace o93 := o93.step e122 rfl
                  replace s6 := s6.step e122
                  replace s9 := s9.step e122
                  replace b14 := b14.step e122 rfl
                  clear e122
                  refine ⟨[(fun L_ lab_ w_ v_ => v_ = .int .i64 y94 ∧ True),
    (fun L_ lab_ w_ v_ => v_ = .bool x116 ∧ True),
    (fun L_ lab_ w_ v_ => v_ = .bool x116 ∧ True),
    (fun L_ lab_ w_ v_ => v_ = undef ∧ True),
    (fun L_ lab_ w_ v_ => v_ = undef ∧ True),
    (fun L_ lab_ w_ v_ => v_ = undef ∧ True),
    (fun L_ lab_ w_ v_ => v_ = undef ∧ True),
    (fun L_ lab_ w_ v_ => v_ = undef ∧ True),
    (fun L_ lab_ w_ v_ => v_ = undef ∧ True),
    (fun L_ lab_ w_ v_ => v_ = undef ∧ True),
    (fun L_ lab_ w_ v_ => v_ = undef ∧ True),
    (fun L_ lab_ w_ v_ => v_ = undef ∧ True),
    (fun L_ lab_ w_ v_ => v_ = undef ∧ True),
    (fun L_ lab_ w_ v_ => v_ = undef ∧ True),
    (fun L_ lab_ w_ v_ => v_ = .bool true ∧ True)], (fun L_ lab_ w_ => Cx [] w lab w_ lab_ ∧ Own R_api_Partial lab_ w_ 10 63 oa91 c92 y85 ∧ SL Rep.u8 lab_ w_ oa4 c5 a2 ∧ SL Rep.u8 lab_ w_ oa7 c8 a4 ∧ Box lab_ w_ 19 g10 26 [.int .i64 a3.Num, .bool a3.More, .int .i64 a3.Size] ∧ True), ?_, ⟨cx, o93, s6, s9, b14, trivial⟩, ?_, ?_⟩
                  · exact ⟨by rintro i_ L_ lab_ w_ lab2_ w2_ v_ hne_ hd_ hk_ hp_ ⟨hv_, _⟩; exact ⟨hv_, trivial⟩, by rintro i_ L_ lab_ w_ lab2_ w2_ v_ hne_ hd_ hk_ hp_ ⟨hv_, _⟩; exact ⟨hv_, trivial⟩, by rintro i_ L_ lab_ w_ lab2_ w2_ v_ hne_ hd_ hk_ hp_ ⟨hv_, _⟩; exact ⟨hv_, trivial⟩, by rintro i_ L_ lab_ w_ lab2_ w2_ v_ hne_ hd_ hk_ hp_ ⟨hv_, _⟩; exact ⟨hv_, trivial⟩, by rintro i_ L_ lab_ w_ lab2_ w2_ v_ hne_ hd_ hk_ hp_ ⟨hv_, _⟩; exact ⟨hv_, trivial⟩, by rintro i_ L_ lab_ w_ lab2_ w2_ v_ hne_ hd_ hk_ hp_ ⟨hv_, _⟩; exact ⟨hv_, trivial⟩, by rintro i_ L_ lab_ w_ lab2_ w2_ v_ hne_ hd_ hk_ hp_ ⟨hv_, _⟩; exact ⟨hv_, trivial⟩, by rintro i_ L_ lab_ w_ lab2_ w2_ v_ hne_ hd_ hk_ hp_ ⟨hv_, _⟩; exact ⟨hv_, trivial⟩, by rintro i_ L_ lab_ w_ lab2_ w2_ v_ hne_ hd_ hk_ hp_ ⟨hv_, _⟩; exact ⟨hv_, trivial⟩, by rintro i_ L_ lab_ w_ lab2_ w2_ v_ hne_ hd_ hk_ hp_ ⟨hv_, _⟩; exact ⟨hv_, trivial⟩, by rintro i_ L_ lab_ w_ lab2_ w2_ v_ hne_ hd_ hk_ hp_ ⟨hv_, _⟩; exact ⟨hv_, trivial⟩, by rintro i_ L_ lab_ w_ lab2_ w2_ v_ hne_ hd_ hk_ hp_ ⟨hv_, _⟩; exact ⟨hv_, trivial⟩, by rintro i_ L_ lab_ w_ lab2_ w2_ v_ hne_ hd_ hk_ hp_ ⟨hv_, _⟩; exact ⟨hv_, trivial⟩, by rintro i_ L_ lab_ w_ lab2_ w2_ v_ hne_ hd_ hk_ hp_ ⟨hv_, _⟩; exact ⟨hv_, trivial⟩, by rintro i_ L_ lab_ w_ lab2_ w2_ v_ hne_ hd_ hk_ hp_ ⟨hv_, _⟩; exact ⟨hv_, trivial⟩, trivial⟩
                  · refine (ob_succ (ob_succ (ob_succ (ob_succ (ob_succ (ob_succ (ob_succ (ob_succ (ob_succ (ob_succ (ob_succ (ob_succ (ob_succ (ob_succ (ob_succ ob_nil ?_) ?_) ?_) ?_) ?_) ?_) ?_) ?_) ?_) ?_) ?_) ?_) ?_) ?_) ?_)
                    · exact ob_moveb (v := .int .i64 y94) rfl (fun _ h_ => h_ _ _ rfl) rfl (fun _ _ _ => ⟨rfl, trivial⟩) (fun _ _ _ h_ => h_)
                    · intro o_ L_ F_ lab_ w_ ho_ hL_ hw_ hcl_ hb_ hr_ hq_; obtain rfl := Option.some.inj (ho_ : some _ = some o_); obtain ⟨cx, o93, s6, s9, b14, _⟩ := hq_
                      obtain ⟨q115, hl95, rfl, _⟩ := hr_ 0 (by decide) (hw_ 0 (by kernel_rfl))
                      replace hl95 : Gk.look F_ 95 = some (.int .i64 y94) := hl95
                      refine LW.lss (letm_eq hx_x116) wn rfl hl95 rfl ?_; intro x_ hx_; cases hx_
                      refine LW.nil ?_; intro a_ ha_
                      exact ⟨rfl, _, _, ha_, ⟨rfl, trivial⟩, Ke.refl, cx, o93, s6, s9, b14, trivial⟩
                    · intro o_ L_ F_ lab_ w_ ho_ hL_ hw_ hcl_ hb_ hr_ hq_; obtain rfl := Option.some.inj (ho_ : some _ = some o_); obtain ⟨cx, o93, s6, s9, b14, _⟩ := hq_
                      obtain ⟨q117, hl96, rfl, _⟩ := hr_ 1 (by decide) (hw_ 1 (by kernel_rfl))
                      replace hl96 : Gk.look F_ 96 = some (.bool x116) := hl96
                      refine LW.move wn rfl hl96 ?_
                      refine LW.nil ?_; intro a_ ha_
                      exact ⟨rfl, _, _, ha_, ⟨rfl, trivial⟩, Ke.refl, cx, o93, s6, s9, b14, trivial⟩
                    · exact ob_skip (b' := true) 2 rfl (by kernel_rfl) (by decide) ⟨_, rfl⟩ (fun _ _ _ _ h_ => .inl (h_.1.trans (congrArg Value.bool hb118))) rfl rfl (fun _ _ _ => ⟨rfl, trivial⟩) (fun _ _ _ h_ => h_)
                    · exact ob_skip (b' := true) 2 rfl (by kernel_rfl) (by decide) ⟨_, rfl⟩ (fun _ _ _ _ h_ => .inl (h_.1.trans (congrArg Value.bool hb118))) rfl rfl (fun _ _ _ => ⟨rfl, trivial⟩) (fun _ _ _ h_ => h_)
                    · exact ob_skip (b' := true) 2 rfl (by kernel_rfl) (by decide) ⟨_, rfl⟩ (fun _ _ _ _ h_ => .inl (h_.1.trans (congrArg Value.bool hb118))) rfl rfl (fun _ _ _ => ⟨rfl, trivial⟩) (fun _ _ _ h_ => h_)
                    · exact ob_skip (b' := true) 2 rfl (by kernel_rfl) (by decide) ⟨_, rfl⟩ (fun _ _ _ _ h_ => .inl (h_.1.trans (congrArg Value.bool hb118))) rfl rfl (fun _ _ _ => ⟨rfl, trivial⟩) (fun _ _ _ h_ => h_)
                    · exact ob_skip (b' := true) 2 rfl (by kernel_rfl) (by decide) ⟨_, rfl⟩ (fun _ _ _ _ h_ => .inl (h_.1.trans (congrArg Value.bool hb118))) rfl rfl (fun _ _ _ => ⟨rfl, trivial⟩) (fun _ _ _ h_ => h_)
                    · exact ob_skip (b' := true) 2 rfl (by kernel_rfl) (by decide) ⟨_, rfl⟩ (fun _ _ _ _ h_ => .inl (h_.1.trans (congrArg Value.bool hb118))) rfl rfl (fun _ _ _ => ⟨rfl, trivial⟩) (fun _ _ _ h_ => h_)
                    · exact ob_skip (b' := true) 2 rfl (by kernel_rfl) (by decide) ⟨_, rfl⟩ (fun _ _ _ _ h_ => .inl (h_.1.trans (congrArg Value.bool hb118))) rfl rfl (fun _ _ _ => ⟨rfl, trivial⟩) (fun _ _ _ h_ => h_)
                    · exact ob_skip (b' := true) 2 rfl (by kernel_rfl) (by decide) ⟨_, rfl⟩ (fun _ _ _ _ h_ => .inl (h_.1.trans (congrArg Value.bool hb118))) rfl rfl (fun _ _ _ => ⟨rfl, trivial⟩) (fun _ _ _ h_ => h_)
                    · exact ob_skip (b' := true) 2 rfl (by kernel_rfl) (by decide) ⟨_, rfl⟩ (fun _ _ _ _ h_ => .inl (h_.1.trans (congrArg Value.bool hb118))) rfl rfl (fun _ _ _ => ⟨rfl, trivial⟩) (fun _ _ _ h_ => h_)
                    · exact ob_skip (b' := true) 2 rfl (by kernel_rfl) (by decide) ⟨_, rfl⟩ (fun _ _ _ _ h_ => .inl (h_.1.trans (congrArg Value.bool hb118))) rfl rfl (fun _ _ _ => ⟨rfl, trivial⟩) (fun _ _ _ h_ => h_)
                    · exact ob_skip (b' := true) 2 rfl (by kernel_rfl) (by decide) ⟨_, rfl⟩ (fun _ _ _ _ h_ => .inl (h_.1.trans (congrArg Value.bool hb118))) rfl rfl (fun _ _ _ => ⟨rfl, trivial⟩) (fun _ _ _ h_ => h_)
                    · intro o_ L_ F_ lab_ w_ ho_ hL_ hw_ hcl_ hb_ hr_ hq_; obtain rfl := Option.some.inj (ho_ : some _ = some o_); obtain ⟨cx, o93, s6, s9, b14, _⟩ := hq_
                      obtain ⟨q119, hl97, rfl, _⟩ := hr_ 2 (by decide) (hw_ 2 (by kernel_rfl))
                      replace hl97 : Gk.look F_ 97 = some (.bool x116) := hl97
                      obtain ⟨q120, hl108, rfl, _⟩ := hr_ 13 (by decide) (hw_ 13 (by kernel_rfl))
                      replace hl108 : Gk.look F_ 108 = some (undef) := hl108
                      refine LW.pick_t wn rfl (bk hl97 hb118) rfl ?_
                      refine LW.nil ?_; intro a_ ha_
                      exact ⟨rfl, _, _, ha_, ⟨rfl, trivial⟩, Ke.refl, cx, o93, s6, s9, b14, trivial⟩
                  · intro F_ lab_ w_ hb_ hr_ hq_; obtain ⟨cx, o93, s6, s9, b14, _⟩ := hq_
                    obtain ⟨q123, hl109, rfl, _⟩ := hr_ 14 (by decide)
                    refine LW.sub (G := [(0, .slice oa91 y85.length c92), (1, .int .i64 a1), (2, .slice oa4 a2.length c5), (4, .slice oa7 a4.length c8), (5, .int .i64 a5), (9, .pointer (some ⟨g10, 0, none⟩)), (16, .int .i64 y49), (17, .int .i64 y94), (109, .bool true)]) ⟨hb_ 0 _ rfl, hb_ 1 _ rfl, hb_ 2 _ rfl, hb_ 4 _ rfl, hb_ 5 _ rfl, hb_ 9 _ rfl, hb_ 16 _ rfl, hb_ 17 _ rfl, hl109, trivial⟩ ?_
                    simp only [List.drop_succ_cons, List.drop_nil, List.drop_zero]
                    refine LW.nil ?_
                    obtain rfl := Option.some.inj hm
                    refine EW.sub (G := [(0, .slice oa91 y85.length c92), (1, .int .i64 a1), (2, .slice oa4 a2.length c5), (4, .slice oa7 a4.length c8), (5, .int .i64 a5), (9, .pointer (some ⟨g10, 0, none⟩)), (17, .int .i64 y94), (109, .bool true)]) ⟨rfl, rfl, rfl, rfl, rfl, rfl, rfl, rfl, trivial⟩ ?_
                    exact EW.join_n ⟨_, rfl, cx, o93, s6, s9, b14, trivial⟩
                · replace hm := cond_f hm hb118
                  obtain ⟨x133, hx_x133, hm_⟩ := bnd_some hm; clear hm; have hm := hm_; clear hm_
                  obtain ⟨x174, hx_x174, hm_⟩ := letm_some hm; clear hm; have hm := hm_; clear hm_
                  obtain ⟨x178, hx_x178, hm_⟩ := letm_some hm; clear hm; have hm := hm_; clear hm_
                  refine CW.sub (G := [(0, .slice oa91 y85.length c92), (1, .int .i64 a1), (2, .slice oa4 a2.length c5), (4, .slice oa7 a4.length c8), (5, .int .i64 a5), (9, .pointer (some ⟨g10, 0, none⟩)), (16, .int .i64 y49), (17, .int .i64 y94)]) ⟨rfl, rfl, rfl, rfl, rfl, rfl, rfl, rfl, trivial⟩ ?_
                  refine CW.drawL (fun i_ => []) (fun i_ => by (try dsimp only); (repeat' split) <;> rfl) kMix_ 15 (by kernel_rfl) cx.top ?_
                  intro w181 e182
                  replace cx := cx.step e182 rfl
                  replace o93 := o93.step e182 rfl
                  replace s6 := s6.step e182
                  replace s9 := s9.step e182
                  replace b14 := b14.step e182 rfl
                  clear e182
                  refine ⟨[(fun L_ lab_ w_ v_ => v_ = .int .i64 y94 ∧ True),
    (fun L_ lab_ w_ v_ => v_ = .bool x116 ∧ True),
    (fun L_ lab_ w_ v_ => v_ = .bool x116 ∧ True),
    (fun L_ lab_ w_ v_ => v_ = .slice oa91 y85.length c92 ∧ True),
    (fun L_ lab_ w_ v_ => v_ = .int .i64 y94 ∧ True),
    (fun L_ lab_ w_ v_ => ∃ (p129 : Addr) (oa136 : Option Addr) (c137 : Nat) (oa139 : Option Addr) (c140 : Nat), v_ = .pointer (some p129) ∧ At (mask lab_ 10) w_ p129 [.int .i64 x133.Peer, .slice oa136 x133.Key.length c137, .slice oa139 x133.Data.length c140, .int .i64 x133.Until] ∧ SL Rep.u8 lab_ w_ oa136 c137 x133.Key ∧ SL Rep.u8 lab_ w_ oa139 c140 x133.Data ∧ True),
    (fun L_ lab_ w_ v_ => ∃ (p142 : Addr) (oa144 : Option Addr) (c145 : Nat) (oa147 : Option Addr) (c148 : Nat), v_ = .pointer (some (p142.add 2)) ∧ At (mask lab_ 10) w_ p142 [.int .i64 x133.Peer, .slice oa144 x133.Key.length c145, .slice oa147 x133.Data.length c148, .int .i64 x133.Until] ∧ SL Rep.u8 lab_ w_ oa144 c145 x133.Key ∧ SL Rep.u8 lab_ w_ oa147 c148 x133.Data ∧ True),
    (fun L_ lab_ w_ v_ => ∃ (oa157 : Option Addr) (c158 : Nat), v_ = .slice oa157 x133.Data.length c158 ∧ SL Rep.u8 lab_ w_ oa157 c158 x133.Data ∧ True),
    (fun L_ lab_ w_ v_ => v_ = .int .i64 (x133.Data.length : Int) ∧ True),
    (fun L_ lab_ w_ v_ => v_ = .pointer (some ⟨g10, 0, none⟩) ∧ True),
    (fun L_ lab_ w_ v_ => v_ = .int .i64 a3.Num ∧ True),
    (fun L_ lab_ w_ v_ => v_ = .int .i64 y49 ∧ True),
    (fun L_ lab_ w_ v_ => v_ = .int .i64 x174 ∧ True),
    (fun L_ lab_ w_ v_ => v_ = .bool x178 ∧ True),
    (fun L_ lab_ w_ v_ => v_ = .bool x178 ∧ True)], (fun L_ lab_ w_ => Cx [] w lab w_ lab_ ∧ Own R_api_Partial lab_ w_ 10 63 oa91 c92 y85 ∧ SL Rep.u8 lab_ w_ oa4 c5 a2 ∧ SL Rep.u8 lab_ w_ oa7 c8 a4 ∧ Box lab_ w_ 19 g10 26 [.int .i64 a3.Num, .bool a3.More, .int .i64 a3.Size] ∧ True), ?_, ⟨cx, o93, s6, s9, b14, trivial⟩, ?_, ?_⟩
                  · exact ⟨by rintro i_ L_ lab_ w_ lab2_ w2_ v_ hne_ hd_ hk_ hp_ ⟨hv_, _⟩; exact ⟨hv_, trivial⟩, by rintro i_ L_ lab_ w_ lab2_ w2_ v_ hne_ hd_ hk_ hp_ ⟨hv_, _⟩; exact ⟨hv_, trivial⟩, by rintro i_ L_ lab_ w_ lab2_ w2_ v_ hne_ hd_ hk_ hp_ ⟨hv_, _⟩; exact ⟨hv_, trivial⟩, by rintro i_ L_ lab_ w_ lab2_ w2_ v_ hne_ hd_ hk_ hp_ ⟨hv_, _⟩; exact ⟨hv_, trivial⟩, by rintro i_ L_ lab_ w_ lab2_ w2_ v_ hne_ hd_ hk_ hp_ ⟨hv_, _⟩; exact ⟨hv_, trivial⟩, by rintro i_ L_ lab_ w_ lab2_ w2_ v_ hne_ hd_ hk_ hp_ ⟨p129, oa136, c137, oa139, c140, hv_, ha132, s138, s141, _⟩; exact ⟨p129, oa136, c137, oa139, c140, hv_, (ha132.keep (hk_.mask (by (try dsimp only); (repeat' split) <;> first | rfl | contradiction) (by (try dsimp only); (repeat' split) <;> first | rfl | contradiction))), (s138.keep hp_), (s141.keep hp_), trivial⟩, by rintro i_ L_ lab_ w_ lab2_ w2_ v_ hne_ hd_ hk_ hp_ ⟨p142, oa144, c145, oa147, c148, hv_, ha143, s146, s149, _⟩; exact ⟨p142, oa144, c145, oa147, c148, hv_, (ha143.keep (hk_.mask (by (try dsimp only); (repeat' split) <;> first | rfl | contradiction) (by (try dsimp only); (repeat' split) <;> first | rfl | contradiction))), (s146.keep hp_), (s149.keep hp_), trivial⟩, by rintro i_ L_ lab_ w_ lab2_ w2_ v_ hne_ hd_ hk_ hp_ ⟨oa157, c158, hv_, s159, _⟩; exact ⟨oa157, c158, hv_, (s159.keep hp_), trivial⟩, by rintro i_ L_ lab_ w_ lab2_ w2_ v_ hne_ hd_ hk_ hp_ ⟨hv_, _⟩; exact ⟨hv_, trivial⟩, by rintro i_ L_ lab_ w_ lab2_ w2_ v_ hne_ hd_ hk_ hp_ ⟨hv_, _⟩; exact ⟨hv_, trivial⟩, by rintro i_ L_ lab_ w_ lab2_ w2_ v_ hne_ hd_ hk_ hp_ ⟨hv_, _⟩; exact ⟨hv_, trivial⟩, by rintro i_ L_ lab_ w_ lab2_ w2_ v_ hne_ hd_ hk_ hp_ ⟨hv_, _⟩; exact ⟨hv_, trivial⟩, by rintro i_ L_ lab_ w_ lab2_ w2_ v_ hne_ hd_ hk_ hp_ ⟨hv_, _⟩; exact ⟨hv_, trivial⟩, by rintro i_ L_ lab_ w_ lab2_ w2_ v_ hne_ hd_ hk_ hp_ ⟨hv_, _⟩; exact ⟨hv_, trivial⟩, by rintro i_ L_ lab_ w_ lab2_ w2_ v_ hne_ hd_ hk_ hp_ ⟨hv_, _⟩; exact ⟨hv_, trivial⟩, trivial⟩
                  · refine (ob_succ (ob_succ (ob_succ (ob_succ (ob_succ (ob_succ (ob_succ (ob_succ (ob_succ (ob_succ (ob_succ (ob_succ (ob_succ (ob_succ (ob_succ ob_nil ?_) ?_) ?_) ?_) ?_) ?_) ?_) ?_) ?_) ?_) ?_) ?_) ?_) ?_) ?_)
                    · exact ob_moveb (v := .int .i64 y94) rfl (fun _ h_ => h_ _ _ rfl) rfl (fun _ _ _ => ⟨rfl, trivial⟩) (fun _ _ _ h_ => h_)
                    · intro o_ L_ F_ lab_ w_ ho_ hL_ hw_ hcl_ hb_ hr_ hq_; obtain rfl := Option.some.inj (ho_ : some _ = some o_); obtain ⟨cx, o93, s6, s9, b14, _⟩ := hq_
                      obtain ⟨q115, hl95, rfl, _⟩ := hr_ 0 (by decide) (hw_ 0 (by kernel_rfl))
                      replace hl95 : Gk.look F_ 95 = some (.int .i64 y94) := hl95
                      refine LW.lss (letm_eq hx_x116) wn rfl hl95 rfl ?_; intro x_ hx_; cases hx_
                      refine LW.nil ?_; intro a_ ha_
                      exact ⟨rfl, _, _, ha_, ⟨rfl, trivial⟩, Ke.refl, cx, o93, s6, s9, b14, trivial⟩
                    · intro o_ L_ F_ lab_ w_ ho_ hL_ hw_ hcl_ hb_ hr_ hq_; obtain rfl := Option.some.inj (ho_ : some _ = some o_); obtain ⟨cx, o93, s6, s9, b14, _⟩ := hq_
                      obtain ⟨q117, hl96, rfl, _⟩ := hr_ 1 (by decide) (hw_ 1 (by kernel_rfl))
                      replace hl96 : Gk.look F_ 96 = some (.bool x116) := hl96
                      refine LW.move wn rfl hl96 ?_
                      refine LW.nil ?_; intro a_ ha_
                      exact ⟨rfl, _, _, ha_, ⟨rfl, trivial⟩, Ke.refl, cx, o93, s6, s9, b14, trivial⟩
                    · intro o_ L_ F_ lab_ w_ ho_ hL_ hw_ hcl_ hb_ hr_ hq_; obtain rfl := Option.some.inj (ho_ : some _ = some o_); obtain ⟨cx, o93, s6, s9, b14, _⟩ := hq_
                      have hl0 := hb_ 0 _ rfl
                      obtain ⟨q124, hl97, rfl, _⟩ := hr_ 2 (by decide) (hw_ 2 (by kernel_rfl))
                      replace hl97 : Gk.look F_ 97 = some (.bool x116) := hl97
                      refine LW.move (ws 97 rfl (bk hl97 hb118)) rfl hl0 ?_
                      refine LW.nil ?_; intro a_ ha_
                      exact ⟨rfl, _, _, ha_, ⟨rfl, trivial⟩, Ke.refl, cx, o93, s6, s9, b14, trivial⟩
                    · intro o_ L_ F_ lab_ w_ ho_ hL_ hw_ hcl_ hb_ hr_ hq_; obtain rfl := Option.some.inj (ho_ : some _ = some o_); obtain ⟨cx, o93, s6, s9, b14, _⟩ := hq_
                      have hl17 := hb_ 17 _ rfl
                      obtain ⟨q125, hl97, rfl, _⟩ := hr_ 2 (by decide) (hw_ 2 (by kernel_rfl))
                      replace hl97 : Gk.look F_ 97 = some (.bool x116) := hl97
                      refine LW.move (ws 97 rfl (bk hl97 hb118)) rfl hl17 ?_
                      refine LW.nil ?_; intro a_ ha_
                      exact ⟨rfl, _, _, ha_, ⟨rfl, trivial⟩, Ke.refl, cx, o93, s6, s9, b14, trivial⟩
                    · intro o_ L_ F_ lab_ w_ ho_ hL_ hw_ hcl_ hb_ hr_ hq_; obtain rfl := Option.some.inj (ho_ : some _ = some o_); obtain ⟨cx, o93, s6, s9, b14, _⟩ := hq_
                      obtain ⟨q126, hl98, rfl, _⟩ := hr_ 3 (by decide) (hw_ 3 (by kernel_rfl))
                      replace hl98 : Gk.look F_ 98 = some (.slice oa91 y85.length c92) := hl98
                      obtain ⟨q127, hl99, rfl, _⟩ := hr_ 4 (by decide) (hw_ 4 (by kernel_rfl))
                      replace hl99 : Gk.look F_ 99 = some (.int .i64 y94) := hl99
                      obtain ⟨q128, hl97, rfl, _⟩ := hr_ 2 (by decide) (hw_ 2 (by kernel_rfl))
                      replace hl97 : Gk.look F_ 97 = some (.bool x116) := hl97
                      refine LW.indexO (bnd_ret hx_x133) o93 kSl_22 (ws 97 rfl (bk hl97 hb118)) rfl hl98 hl99 ?_; intro x_ p129 cs130 hx_ hr131 ha132 he134 hp135; cases hx_
                      obtain ⟨oa136, c137, oa139, c140, rfl, s138, s141, _⟩ := hr131
                      refine LW.nil ?_; intro a_ ha_
                      exact ⟨rfl, _, _, ha_, ⟨p129, oa136, c137, oa139, c140, rfl, ha132, s138, s141, trivial⟩, Ke.refl, cx, o93, s6, s9, b14, trivial⟩
                    · intro o_ L_ F_ lab_ w_ ho_ hL_ hw_ hcl_ hb_ hr_ hq_; obtain rfl := Option.some.inj (ho_ : some _ = some o_); obtain ⟨cx, o93, s6, s9, b14, _⟩ := hq_
                      obtain ⟨q150, hl100, p142, oa144, c145, oa147, c148, rfl, ha143, s146, s149, _⟩ := hr_ 5 (by decide) (hw_ 5 (by kernel_rfl))
                      replace hl100 : Gk.look F_ 100 = some (.pointer (some p142)) := hl100
                      obtain ⟨q151, hl97, rfl, _⟩ := hr_ 2 (by decide) (hw_ 2 (by kernel_rfl))
                      replace hl97 : Gk.look F_ 97 = some (.bool x116) := hl97
                      refine LW.fldA kFld_63_2 (ws 97 rfl (bk hl97 hb118)) rfl hl100 ?_
                      refine LW.nil ?_; intro a_ ha_
                      exact ⟨rfl, _, _, ha_, ⟨p142, oa144, c145, oa147, c148, rfl, ha143, s146, s149, trivial⟩, Ke.refl, cx, o93, s6, s9, b14, trivial⟩
                    · intro o_ L_ F_ lab_ w_ ho_ hL_ hw_ hcl_ hb_ hr_ hq_; obtain rfl := Option.some.inj (ho_ : some _ = some o_); obtain ⟨cx, o93, s6, s9, b14, _⟩ := hq_
                      obtain ⟨q160, hl101, p152, oa154, c155, oa157, c158, rfl, ha153, s156, s159, _⟩ := hr_ 6 (by decide) (hw_ 6 (by kernel_rfl))
                      replace hl101 : Gk.look F_ 101 = some (.pointer (some (p152.add 2))) := hl101
                      obtain ⟨q161, hl97, rfl, _⟩ := hr_ 2 (by decide) (hw_ 2 (by kernel_rfl))
                      replace hl97 : Gk.look F_ 97 = some (.bool x116) := hl97
                      refine LW.loadA1 (ha153.cell 2 rfl) kOne_24 (ws 97 rfl (bk hl97 hb118)) rfl hl101 ?_
                      refine LW.nil ?_; intro a_ ha_
                      exact ⟨rfl, _, _, ha_, ⟨oa157, c158, rfl, s159, trivial⟩, Ke.refl, cx, o93, s6, s9, b14, trivial⟩
                    · intro o_ L_ F_ lab_ w_ ho_ hL_ hw_ hcl_ hb_ hr_ hq_; obtain rfl := Option.some.inj (ho_ : some _ = some o_); obtain ⟨cx, o93, s6, s9, b14, _⟩ := hq_
                      obtain ⟨q165, hl102, oa162, c163, rfl, s164, _⟩ := hr_ 7 (by decide) (hw_ 7 (by kernel_rfl))
                      replace hl102 : Gk.look F_ 102 = some (.slice oa162 x133.Data.length c163) := hl102
                      obtain ⟨q166, hl97, rfl, _⟩ := hr_ 2 (by decide) (hw_ 2 (by kernel_rfl))
                      replace hl97 : Gk.look F_ 97 = some (.bool x116) := hl97
                      refine LW.len kUnd_24 (ws 97 rfl (bk hl97 hb118)) rfl hl102 ?_
                      refine LW.nil ?_; intro a_ ha_
                      exact ⟨rfl, _, _, ha_, ⟨rfl, trivial⟩, Ke.refl, cx, o93, s6, s9, b14, trivial⟩
                    · intro o_ L_ F_ lab_ w_ ho_ hL_ hw_ hcl_ hb_ hr_ hq_; obtain rfl := Option.some.inj (ho_ : some _ = some o_); obtain ⟨cx, o93, s6, s9, b14, _⟩ := hq_
                      have hl9 := hb_ 9 _ rfl
                      obtain ⟨q167, hl97, rfl, _⟩ := hr_ 2 (by decide) (hw_ 2 (by kernel_rfl))
                      replace hl97 : Gk.look F_ 97 = some (.bool x116) := hl97
                      refine LW.fldB 0 kFld_26_0 rfl (ws 97 rfl (bk hl97 hb118)) rfl hl9 ?_
                      refine LW.nil ?_; intro a_ ha_
                      exact ⟨rfl, _, _, ha_, ⟨rfl, trivial⟩, Ke.refl, cx, o93, s6, s9, b14, trivial⟩
                    · intro o_ L_ F_ lab_ w_ ho_ hL_ hw_ hcl_ hb_ hr_ hq_; obtain rfl := Option.some.inj (ho_ : some _ = some o_); obtain ⟨cx, o93, s6, s9, b14, _⟩ := hq_
                      obtain ⟨q168, hl104, rfl, _⟩ := hr_ 9 (by decide) (hw_ 9 (by kernel_rfl))
                      replace hl104 : Gk.look F_ 104 = some (.pointer (some ⟨g10, 0, none⟩)) := hl104
                      obtain ⟨q169, hl97, rfl, _⟩ := hr_ 2 (by decide) (hw_ 2 (by kernel_rfl))
                      replace hl97 : Gk.look F_ 97 = some (.bool x116) := hl97
                      refine LW.loadB1 b14 kOne_3 rfl (ws 97 rfl (bk hl97 hb118)) rfl hl104 ?_
                      refine LW.nil ?_; intro a_ ha_
                      exact ⟨rfl, _, _, ha_, ⟨rfl, trivial⟩, Ke.refl, cx, o93, s6, s9, b14, trivial⟩
                    · intro o_ L_ F_ lab_ w_ ho_ hL_ hw_ hcl_ hb_ hr_ hq_; obtain rfl := Option.some.inj (ho_ : some _ = some o_); obtain ⟨cx, o93, s6, s9, b14, _⟩ := hq_
                      have hl16 := hb_ 16 _ rfl
                      obtain ⟨q170, hl97, rfl, _⟩ := hr_ 2 (by decide) (hw_ 2 (by kernel_rfl))
                      replace hl97 : Gk.look F_ 97 = some (.bool x116) := hl97
                      refine LW.move (ws 97 rfl (bk hl97 hb118)) rfl hl16 ?_
                      refine LW.nil ?_; intro a_ ha_
                      exact ⟨rfl, _, _, ha_, ⟨rfl, trivial⟩, Ke.refl, cx, o93, s6, s9, b14, trivial⟩
                    · intro o_ L_ F_ lab_ w_ ho_ hL_ hw_ hcl_ hb_ hr_ hq_; obtain rfl := Option.some.inj (ho_ : some _ = some o_); obtain ⟨cx, o93, s6, s9, b14, _⟩ := hq_
                      obtain ⟨q171, hl105, rfl, _⟩ := hr_ 10 (by decide) (hw_ 10 (by kernel_rfl))
                      replace hl105 : Gk.look F_ 105 = some (.int .i64 a3.Num) := hl105
                      obtain ⟨q172, hl106, rfl, _⟩ := hr_ 11 (by decide) (hw_ 11 (by kernel_rfl))
                      replace hl106 : Gk.look F_ 106 = some (.int .i64 y49) := hl106
                      obtain ⟨q173, hl97, rfl, _⟩ := hr_ 2 (by decide) (hw_ 2 (by kernel_rfl))
                      replace hl97 : Gk.look F_ 97 = some (.bool x116) := hl97
                      refine LW.mul (letm_eq hx_x174) (ws 97 rfl (bk hl97 hb118)) rfl hl105 hl106 ?_; intro x_ hx_; cases hx_
                      refine LW.nil ?_; intro a_ ha_
                      exact ⟨rfl, _, _, ha_, ⟨rfl, trivial⟩, Ke.refl, cx, o93, s6, s9, b14, trivial⟩
                    · intro o_ L_ F_ lab_ w_ ho_ hL_ hw_ hcl_ hb_ hr_ hq_; obtain rfl := Option.some.inj (ho_ : some _ = some o_); obtain ⟨cx, o93, s6, s9, b14, _⟩ := hq_
                      obtain ⟨q175, hl103, rfl, _⟩ := hr_ 8 (by decide) (hw_ 8 (by kernel_rfl))
                      replace hl103 : Gk.look F_ 103 = some (.int .i64 (x133.Data.length : Int)) := hl103
                      obtain ⟨q176, hl107, rfl, _⟩ := hr_ 12 (by decide) (hw_ 12 (by kernel_rfl))
                      replace hl107 : Gk.look F_ 107 = some (.int .i64 x174) := hl107
                      obtain ⟨q177, hl97, rfl, _⟩ := hr_ 2 (by decide) (hw_ 2 (by kernel_rfl))
                      replace hl97 : Gk.look F_ 97 = some (.bool x116) := hl97
                      refine LW.neq (letm_eq hx_x178) (ws 97 rfl (bk hl97 hb118)) rfl hl103 hl107 ?_; intro x_ hx_; cases hx_
                      refine LW.nil ?_; intro a_ ha_
                      exact ⟨rfl, _, _, ha_, ⟨rfl, trivial⟩, Ke.refl, cx, o93, s6, s9, b14, trivial⟩
                    · intro o_ L_ F_ lab_ w_ ho_ hL_ hw_ hcl_ hb_ hr_ hq_; obtain rfl := Option.some.inj (ho_ : some _ = some o_); obtain ⟨cx, o93, s6, s9, b14, _⟩ := hq_
                      obtain ⟨q179, hl97, rfl, _⟩ := hr_ 2 (by decide) (hw_ 2 (by kernel_rfl))
                      replace hl97 : Gk.look F_ 97 = some (.bool x116) := hl97
                      obtain ⟨q180, hl108, rfl, _⟩ := hr_ 13 (by decide) (hw_ 13 (by kernel_rfl))
                      replace hl108 : Gk.look F_ 108 = some (.bool x178) := hl108
                      refine LW.pick_f wn rfl (bk hl97 hb118) hl108 ?_
                      refine LW.nil ?_; intro a_ ha_
                      exact ⟨rfl, _, _, ha_, ⟨rfl, trivial⟩, Ke.refl, cx, o93, s6, s9, b14, trivial⟩
                  · intro F_ lab_ w_ hb_ hr_ hq_; obtain ⟨cx, o93, s6, s9, b14, _⟩ := hq_
                    obtain ⟨q183, hl109, rfl, _⟩ := hr_ 14 (by decide)
                    refine LW.sub (G := [(0, .slice oa91 y85.length c92), (1, .int .i64 a1), (2, .slice oa4 a2.length c5), (4, .slice oa7 a4.length c8), (5, .int .i64 a5), (9, .pointer (some ⟨g10, 0, none⟩)), (16, .int .i64 y49), (17, .int .i64 y94), (109, .bool x178)]) ⟨hb_ 0 _ rfl, hb_ 1 _ rfl, hb_ 2 _ rfl, hb_ 4 _ rfl, hb_ 5 _ rfl, hb_ 9 _ rfl, hb_ 16 _ rfl, hb_ 17 _ rfl, hl109, trivial⟩ ?_
                    simp only [List.drop_succ_cons, List.drop_nil, List.drop_zero]
                    refine LW.nil ?_
                    obtain rfl := Option.some.inj hm
                    refine EW.sub (G := [(0, .slice oa91 y85.length c92), (1, .int .i64 a1), (2, .slice oa4 a2.length c5), (4, .slice oa7 a4.length c8), (5, .int .i64 a5), (9, .pointer (some ⟨g10, 0, none⟩)), (17, .int .i64 y94), (109, .bool x178)]) ⟨rfl, rfl, rfl, rfl, rfl, rfl, rfl, rfl, trivial⟩ ?_
                    exact EW.join_n ⟨_, rfl, cx, o93, s6, s9, b14, trivial⟩
              · rintro _ w113 ⟨lab114, rfl, cx, o93, s6, s9, b14, _⟩
                have hm := hm_; clear hm_
                refine EW.seq_n ?_
                refine CW.cond (b := y111) rfl (fun hb184 => ?_) (fun hb184 => ?_)
                · replace hm := cond_t hm hb184
                  refine CW.seq ?_
                  refine CW.region ?_
                  refine LW.assign wn rfl rfl ?_
                  refine LW.assign wn rfl rfl ?_
                  refine LW.assign wn rfl rfl ?_
                  refine LW.assign wn rfl rfl ?_
                  refine LW.nil ?_
                  refine EW.seq_n ?_
                  refine CW.ret ?_
                  refine EW.seq_r ?_
                  refine EW.join_r ?_
                  obtain rfl := Option.some.inj hm; have hm := hs103 _ rfl
                  refine EW.seq_r ?_
                  obtain rfl := Option.some.inj hm
                  exact EW.rets (vs := [.slice none 0 0, .slice none 0 0, .bool false, .int .i64 15]) rfl ⟨rfl, rfl, rfl, rfl, trivial⟩ rfl ⟨none, 0, none, 0, rfl, (cx.ste t), SL.nil, SL.nil, trivial⟩
                · replace hm := cond_f hm hb184
                  refine CW.skip ?_
                  refine EW.seq_n ?_
                  refine CW.region ?_
                  refine LW.move wn rfl rfl ?_
                  refine LW.move wn rfl rfl ?_
                  refine LW.indexO hm o93 kSl_22 wn rfl rfl rfl ?_; clear hm; intro x189 p185 cs186 hm hr187 ha188 he190 hp191
                  obtain ⟨oa192, c193, oa195, c196, rfl, s194, s197, _⟩ := hr187
                  refine LW.fldA kFld_63_2 wn rfl rfl ?_
                  refine LW.loadA1 (ha188.cell 2 rfl) kOne_24 wn rfl rfl ?_
                  refine LW.assign wn rfl rfl ?_
                  refine LW.nil ?_
                  obtain rfl := Option.some.inj hm
                  refine EW.sub (G := [(0, .slice oa91 y85.length c92), (1, .int .i64 a1), (2, .slice oa4 a2.length c5), (4, .slice oa7 a4.length c8), (5, .int .i64 a5), (9, .pointer (some ⟨g10, 0, none⟩)), (17, .int .i64 y94), (18, .slice oa195 x189.Data.length c196)]) ⟨rfl, rfl, rfl, rfl, rfl, rfl, rfl, rfl, trivial⟩ ?_
                  exact EW.join_n ⟨x189.Data, _, oa195, c196, rfl, rfl, cx, o93, s6, s9, b14, s197, trivial⟩
            · replace hm := cond_f hm hb110
              refine CW.skip ?_
              obtain rfl := Option.some.inj hm
              refine EW.sub (G := [(0, .slice oa91 y85.length c92), (1, .int .i64 a1), (2, .slice oa4 a2.length c5), (4, .slice oa7 a4.length c8), (5, .int .i64 a5), (9, .pointer (some ⟨g10, 0, none⟩)), (17, .int .i64 y94), (18, .slice none ([] : List UInt8).length 0)]) ⟨rfl, rfl, rfl, rfl, rfl, rfl, rfl, rfl, trivial⟩ ?_
              exact EW.join_n ⟨[], _, none, 0, rfl, rfl, cx, o93, s6, s9, b14, SL.nil, trivial⟩
          · rintro _ w108 ⟨y100, lab109, oa105, c106, hsr_, rfl, cx, o93, s6, s9, b14, s107, _⟩
            have hm := hs104 _ hsr_; clear hsr_
            refine EW.seq_n ?_
            refine CW.seq ?_
            refine CW.seq ?_
            refine CW.region ?_
            refine LW.move wn rfl rfl ?_
            refine LW.len kUnd_24 wn rfl rfl ?_
            refine LW.move wn rfl rfl ?_
            refine LW.len kUnd_24 wn rfl rfl ?_
            refine LW.add hm wn rfl rfl rfl ?_; clear hm; intro x198 hm
            refine LW.gtr hm wn rfl rfl rfl ?_; clear hm; intro x199 hm
            refine LW.nil ?_
            refine EW.seq_n ?_
            refine CW.cond (b := x199) rfl (fun hb200 => ?_) (fun hb200 => ?_)
            · replace hm := cond_t hm hb200
              refine CW.seq ?_
              refine CW.region ?_
              refine LW.assign wn rfl rfl ?_
              refine LW.assign wn rfl rfl ?_
              refine LW.assign wn rfl rfl ?_
              refine LW.assign wn rfl rfl ?_
              refine LW.nil ?_
              refine EW.seq_n ?_
              refine CW.ret ?_
              refine EW.seq_r ?_
              obtain rfl := Option.some.inj hm
              exact EW.rets (vs := [.slice none 0 0, .slice none 0 0, .bool false, .int .i64 8]) rfl ⟨rfl, rfl, rfl, rfl, trivial⟩ rfl ⟨none, 0, none, 0, rfl, (cx.ste t), SL.nil, SL.nil, trivial⟩
            · replace hm := cond_f hm hb200
              refine CW.skip ?_
              refine EW.seq_n ?_
              refine CW.seq ?_
              refine CW.region ?_
              refine LW.move wn rfl rfl ?_
              obtain ⟨y201, h205, hm_⟩ := bnd_some hm; clear hm; have hm := hm_; clear hm_
              refine LW.call kFn_33 (co_bytes_Clone (k := 28) h205 cx.top s107) wn rfl rfl ?_
              rintro _ w202 ⟨lab206, oa207, c208, rfl, e203, o209, _⟩; refine ⟨_, rfl, ?_⟩
              replace cx := cx.step e203 rfl
              replace o93 := o93.step e203 rfl
              replace s6 := s6.step e203
              replace s9 := s9.step e203
              replace b14 := b14.step e203 rfl
              replace s107 := s107.step e203
              clear e203
              refine LW.move wn rfl rfl ?_
              refine LW.append (ρ := Rep.u8) (xs := y201) (ys := a4) hm o209 (SL.flat' (lab := _) (c := c8) s9) cx.top rfl kSl_24 rfl wn rfl rfl rfl ?_; clear hm; intro x210 oa211 c212 lab213 w214 hm e215 o216
              replace cx := cx.step e215 rfl
              replace o93 := o93.step e215 rfl
              replace s6 := s6.step e215
              replace s9 := s9.step e215
              replace b14 := b14.step e215 rfl
              replace s107 := s107.step e215
              clear e215
              refine LW.assign wn rfl rfl ?_
              refine LW.nil ?_
              refine EW.seq_n ?_
              refine CW.seq ?_
              refine CW.block ?_
              refine CW.seq ?_
              obtain ⟨y217, h218, hm_⟩ := bnd_some hm; clear hm
              refine CW.join_any (fun F_ w219 => ∃ (lab220 : Lab) , F_ = [(0, .slice oa91 y85.length c92), (1, .int .i64 a1), (2, .slice oa4 a2.length c5), (5, .int .i64 a5), (9, .pointer (some ⟨g10, 0, none⟩)), (17, .int .i64 y94), (18, .slice oa211 x210.length c212), (125, .bool y217)] ∧ Cx [] w lab w219 lab220 ∧ Own R_api_Partial lab220 w219 10 63 oa91 c92 y85 ∧ SL Rep.u8 lab220 w219 oa4 c5 a2 ∧ Box lab220 w219 19 g10 26 [.int .i64 a3.Num, .bool a3.More, .int .i64 a3.Size] ∧ Own Rep.u8 lab220 w219 28 5 oa211 c212 x210 ∧ True) ?_ ?_
              · have hm := h218; clear h218
                refine CW.region ?_
                refine LW.fldB 1 kFld_26_1 rfl wn rfl rfl ?_
                refine LW.loadB1 b14 kOne_4 rfl wn rfl rfl ?_
                refine LW.not hm wn rfl rfl ?_; clear hm; intro x221 hm
                refine LW.move wn rfl rfl ?_
                rcases Bool.eq_false_or_eq_true x221 with hb223 | hb223
                · replace hm := cond_t hm hb223
                  refine LW.move (ws 129 rfl (bk rfl hb223)) rfl rfl ?_
                  refine LW.geq hm (ws 129 rfl (bk rfl hb223)) rfl rfl rfl ?_; clear hm; intro x224 hm
                  refine LW.pick_t wn rfl (bk rfl hb223) rfl ?_
                  refine LW.assign wn rfl rfl ?_
                  refine LW.nil ?_
                  obtain rfl := Option.some.inj hm
                  refine EW.sub (G := [(0, .slice oa91 y85.length c92), (1, .int .i64 a1), (2, .slice oa4 a2.length c5), (5, .int .i64 a5), (9, .pointer (some ⟨g10, 0, none⟩)), (17, .int .i64 y94), (18, .slice oa211 x210.length c212), (125, .bool x224)]) ⟨rfl, rfl, rfl, rfl, rfl, rfl, rfl, rfl, trivial⟩ ?_
                  exact EW.join_n ⟨_, rfl, cx, o93, s6, b14, o216, trivial⟩
                · replace hm := cond_f hm hb223
                  refine LW.skip 129 rfl (bk rfl hb223) rfl rfl ?_
                  refine LW.skip 129 rfl (bk rfl hb223) rfl rfl ?_
                  refine LW.pick_f wn rfl (bk rfl hb223) rfl ?_
                  refine LW.assign wn rfl rfl ?_
                  refine LW.nil ?_
                  obtain rfl := Option.some.inj hm
                  refine EW.sub (G := [(0, .slice oa91 y85.length c92), (1, .int .i64 a1), (2, .slice oa4 a2.length c5), (5, .int .i64 a5), (9, .pointer (some ⟨g10, 0, none⟩)), (17, .int .i64 y94), (18, .slice oa211 x210.length c212), (125, .bool false)]) ⟨rfl, rfl, rfl, rfl, rfl, rfl, rfl, rfl, trivial⟩ ?_
                  exact EW.join_n ⟨_, rfl, cx, o93, s6, b14, o216, trivial⟩
              · rintro _ w219 ⟨lab220, rfl, cx, o93, s6, b14, o216, _⟩
                have hm := hm_; clear hm_
                refine EW.seq_n ?_
                refine CW.cond (b := y217) rfl (fun hb225 => ?_) (fun hb225 => ?_)
                · replace hm := cond_t hm hb225
                  refine CW.seq ?_
                  obtain ⟨x228, hx_x228, hm_⟩ := bnd_some hm; clear hm; have hm := hm_; clear hm_
                  obtain ⟨x231, hx_x231, hm_⟩ := letm_some hm; clear hm; have hm := hm_; clear hm_
                  obtain ⟨x234, hx_x234, hm_⟩ := bnd_some hm; clear hm; have hm := hm_; clear hm_
                  obtain ⟨x244, hx_x244, hm_⟩ := bnd_some hm; clear hm; have hm := hm_; clear hm_
                  refine CW.sub (G := [(0, .slice oa91 y85.length c92), (17, .int .i64 y94), (18, .slice oa211 x210.length c212)]) ⟨rfl, rfl, rfl, trivial⟩ ?_
                  refine CW.drawL (fun i_ => if i_ = 7 then [10] else []) (fun i_ => by (try dsimp only); (repeat' split) <;> rfl) kMix_ 10 (by kernel_rfl) cx.top ?_
                  intro w255 e256
                  replace cx := cx.step e256 rfl
                  replace o93 := o93.step e256 rfl
                  replace o216 := o216.step e256 rfl
                  clear e256
                  refine ⟨[(fun L_ lab_ w_ v_ => v_ = .slice oa91 y85.length c92 ∧ True),
    (fun L_ lab_ w_ v_ => v_ = .int .i64 y94 ∧ True),
    (fun L_ lab_ w_ v_ => L_ 7 = true ∨ (v_ = .slice oa91 x228.length c92 ∧ Own R_api_Partial lab_ w_ 10 63 oa91 c92 x228 ∧ True)),
    (fun L_ lab_ w_ v_ => v_ = .slice oa91 y85.length c92 ∧ True),
    (fun L_ lab_ w_ v_ => v_ = .int .i64 y94 ∧ True),
    (fun L_ lab_ w_ v_ => v_ = .int .i64 x231 ∧ True),
    (fun L_ lab_ w_ v_ => L_ 7 = true ∨ (∃ (oa236 : Option Addr) (c237 : Nat), v_ = .slice oa236 x234.length c237 ∧ FlatO R_api_Partial lab_ w_ 10 oa236 x234 ∧ True)),
    (fun L_ lab_ w_ v_ => ∃ (oa245 : Option Addr) (c246 : Nat), v_ = .slice oa245 x244.length c246 ∧ Own R_api_Partial lab_ w_ 10 63 oa245 c246 x244 ∧ True),
    (fun L_ lab_ w_ v_ => v_ = .slice oa211 x210.length c212 ∧ True),
    (fun L_ lab_ w_ v_ => ∃ (oa251 : Option Addr) (c252 : Nat), v_ = .slice oa251 x244.length c252 ∧ Own R_api_Partial lab_ w_ 10 63 oa251 c252 x244 ∧ True)], (fun L_ lab_ w_ => Cx [] w lab w_ lab_ ∧ (L_ 7 = true ∨ Own R_api_Partial lab_ w_ 10 63 oa91 c92 y85) ∧ Own Rep.u8 lab_ w_ 28 5 oa211 c212 x210 ∧ True), ?_, ⟨cx, .inr o93, o216, trivial⟩, ?_, ?_⟩
                  · exact ⟨by rintro i_ L_ lab_ w_ lab2_ w2_ v_ hne_ hd_ hk_ hp_ ⟨hv_, _⟩; exact ⟨hv_, trivial⟩, by rintro i_ L_ lab_ w_ lab2_ w2_ v_ hne_ hd_ hk_ hp_ ⟨hv_, _⟩; exact ⟨hv_, trivial⟩, by
                        rintro i_ L_ lab_ w_ lab2_ w2_ v_ hne_ hd_ hk_ hp_ (h_ | ⟨hv_, o229, _⟩)
                        · exact .inl (upd_of h_)
                        · by_cases hi_ : i_ = 7
                          · subst hi_; exact .inl upd_self
                          · exact .inr ⟨hv_, (o229.ke hk_ (by (try dsimp only); (repeat' split) <;> first | rfl | contradiction) (by (try dsimp only); (repeat' split) <;> first | rfl | contradiction)), trivial⟩, by rintro i_ L_ lab_ w_ lab2_ w2_ v_ hne_ hd_ hk_ hp_ ⟨hv_, _⟩; exact ⟨hv_, trivial⟩, by rintro i_ L_ lab_ w_ lab2_ w2_ v_ hne_ hd_ hk_ hp_ ⟨hv_, _⟩; exact ⟨hv_, trivial⟩, by rintro i_ L_ lab_ w_ lab2_ w2_ v_ hne_ hd_ hk_ hp_ ⟨hv_, _⟩; exact ⟨hv_, trivial⟩, by
                        rintro i_ L_ lab_ w_ lab2_ w2_ v_ hne_ hd_ hk_ hp_ (h_ | ⟨oa236, c237, hv_, f235, _⟩)
                        · exact .inl (upd_of h_)
                        · by_cases hi_ : i_ = 7
                          · subst hi_; exact .inl upd_self
                          · exact .inr ⟨oa236, c237, hv_, (f235.ke hk_ (by (try dsimp only); (repeat' split) <;> first | rfl | contradiction) (by (try dsimp only); (repeat' split) <;> first | rfl | contradiction)), trivial⟩, by rintro i_ L_ lab_ w_ lab2_ w2_ v_ hne_ hd_ hk_ hp_ ⟨oa245, c246, hv_, o250, _⟩; exact ⟨oa245, c246, hv_, (o250.ke hk_ (by (try dsimp only); (repeat' split) <;> first | rfl | contradiction) (by (try dsimp only); (repeat' split) <;> first | rfl | contradiction)), trivial⟩, by rintro i_ L_ lab_ w_ lab2_ w2_ v_ hne_ hd_ hk_ hp_ ⟨hv_, _⟩; exact ⟨hv_, trivial⟩, by
                        rintro i_ L_ lab_ w_ lab2_ w2_ v_ hne_ hd_ hk_ hp_ ⟨oa251, c252, hv_, s253, _⟩
                        by_cases hw7_ : i_ = 7
                        · subst hw7_; exact (hd_.no [] (by kernel_rfl)).elim
                        exact ⟨oa251, c252, hv_, (s253.ke hk_ (by (try dsimp only); (repeat' split) <;> first | rfl | contradiction) (by (try dsimp only); (repeat' split) <;> first | rfl | contradiction)), trivial⟩, trivial⟩
                  · refine (ob_succ (ob_succ (ob_succ (ob_succ (ob_succ (ob_succ (ob_succ (ob_succ (ob_succ (ob_succ ob_nil ?_) ?_) ?_) ?_) ?_) ?_) ?_) ?_) ?_) ?_)
                    · exact ob_moveb (v := .slice oa91 y85.length c92) rfl (fun _ h_ => h_ _ _ rfl) rfl (fun _ _ _ => ⟨rfl, trivial⟩) (fun _ _ _ h_ => h_)
                    · exact ob_moveb (v := .int .i64 y94) rfl (fun _ h_ => h_ _ _ rfl) rfl (fun _ _ _ => ⟨rfl, trivial⟩) (fun _ _ _ h_ => h_)
                    · intro o_ L_ F_ lab_ w_ ho_ hL_ hw_ hcl_ hb_ hr_ hq_; obtain rfl := Option.some.inj (ho_ : some _ = some o_); obtain ⟨cx, o93, o216, _⟩ := hq_
                      have hLc_ : L_ 7 = false := by
                        cases hx_ : L_ 7 with
                        | false => rfl
                        | true => have := hcl_ 7 2 (by kernel_rfl) hx_; rw [hL_] at this; cases this
                      rcases o93 with h_ | o93
                      · rw [hLc_] at h_; cases h_
                      obtain ⟨q226, hl133, rfl, _⟩ := hr_ 0 (by decide) (hw_ 0 (by kernel_rfl))
                      replace hl133 : Gk.look F_ 133 = some (.slice oa91 y85.length c92) := hl133
                      obtain ⟨q227, hl134, rfl, _⟩ := hr_ 1 (by decide) (hw_ 1 (by kernel_rfl))
                      replace hl134 : Gk.look F_ 134 = some (.int .i64 y94) := hl134
                      refine LW.slice_hO (bnd_ret hx_x228) o93 kSl_22 wn rfl hl133 hl134 ?_; intro x_ hx_ o229; cases hx_
                      refine LW.nil ?_; intro a_ ha_
                      exact ⟨rfl, _, _, ha_, .inr ⟨rfl, o229, trivial⟩, Ke.refl, cx, (.inr o93), o216, trivial⟩
                    · exact ob_moveb (v := .slice oa91 y85.length c92) rfl (fun _ h_ => h_ _ _ rfl) rfl (fun _ _ _ => ⟨rfl, trivial⟩) (fun _ _ _ h_ => h_)
                    · exact ob_moveb (v := .int .i64 y94) rfl (fun _ h_ => h_ _ _ rfl) rfl (fun _ _ _ => ⟨rfl, trivial⟩) (fun _ _ _ h_ => h_)
                    · intro o_ L_ F_ lab_ w_ ho_ hL_ hw_ hcl_ hb_ hr_ hq_; obtain rfl := Option.some.inj (ho_ : some _ = some o_); obtain ⟨cx, o93, o216, _⟩ := hq_
                      obtain ⟨q230, hl137, rfl, _⟩ := hr_ 4 (by decide) (hw_ 4 (by kernel_rfl))
                      replace hl137 : Gk.look F_ 137 = some (.int .i64 y94) := hl137
                      refine LW.add (letm_eq hx_x231) wn rfl hl137 rfl ?_; intro x_ hx_; cases hx_
                      refine LW.nil ?_; intro a_ ha_
                      exact ⟨rfl, _, _, ha_, ⟨rfl, trivial⟩, Ke.refl, cx, (o93), o216, trivial⟩
                    · intro o_ L_ F_ lab_ w_ ho_ hL_ hw_ hcl_ hb_ hr_ hq_; obtain rfl := Option.some.inj (ho_ : some _ = some o_); obtain ⟨cx, o93, o216, _⟩ := hq_
                      have hLc_ : L_ 7 = false := by
                        cases hx_ : L_ 7 with
                        | false => rfl
                        | true => have := hcl_ 7 6 (by kernel_rfl) hx_; rw [hL_] at this; cases this
                      rcases o93 with h_ | o93
                      · rw [hLc_] at h_; cases h_
                      obtain ⟨q232, hl136, rfl, _⟩ := hr_ 3 (by decide) (hw_ 3 (by kernel_rfl))
                      replace hl136 : Gk.look F_ 136 = some (.slice oa91 y85.length c92) := hl136
                      obtain ⟨q233, hl138, rfl, _⟩ := hr_ 5 (by decide) (hw_ 5 (by kernel_rfl))
                      replace hl138 : Gk.look F_ 138 = some (.int .i64 x231) := hl138
                      refine LW.slice_lO (bnd_ret hx_x234) o93 kSl_22 wn rfl hl136 hl138 ?_; intro x_ oa236 c237 hx_ f235; cases hx_
                      refine LW.nil ?_; intro a_ ha_
                      exact ⟨rfl, _, _, ha_, .inr ⟨oa236, c237, rfl, f235, trivial⟩, Ke.refl, cx, (.inr o93), o216, trivial⟩
                    · intro o_ L_ F_ lab_ w_ ho_ hL_ hw_ hcl_ hb_ hr_ hq_; obtain rfl := Option.some.inj (ho_ : some _ = some o_); obtain ⟨cx, o93, o216, _⟩ := hq_
                      rcases o93 with h_ | o93
                      · rw [hL_] at h_; cases h_
                      obtain ⟨q239, hl135, hR_⟩ := hr_ 2 (by decide) (hw_ 2 (by kernel_rfl))
                      rcases hR_ with hR_ | ⟨rfl, s238, _⟩
                      · rw [hL_] at hR_; cases hR_
                      replace hl135 : Gk.look F_ 135 = some (.slice oa91 x228.length c92) := hl135
                      obtain ⟨q243, hl139, hR_⟩ := hr_ 6 (by decide) (hw_ 6 (by kernel_rfl))
                      rcases hR_ with hR_ | ⟨oa240, c241, rfl, s242, _⟩
                      · rw [hL_] at hR_; cases hR_
                      replace hl139 : Gk.look F_ 139 = some (.slice oa240 x234.length c241) := hl139
                      refine LW.append (ρ := R_api_Partial) (xs := x228) (ys := x234) (bnd_ret hx_x244) s238 s242.flat cx.top rfl kSl_22 rfl wn rfl hl135 hl139 ?_; intro x_ oa245 c246 lab247 w248 hx_ e249 o250; cases hx_
                      replace cx := cx.step e249 rfl
                      replace o216 := o216.step e249 rfl
                      refine LW.nil ?_; intro a_ ha_
                      exact ⟨rfl, _, _, ha_, ⟨oa245, c246, rfl, o250, trivial⟩, (e249.ke rfl), cx, (.inl upd_self), o216, trivial⟩
                    · exact ob_moveb (v := .slice oa211 x210.length c212) rfl (fun _ h_ => h_ _ _ rfl) rfl (fun _ _ _ => ⟨rfl, trivial⟩) (fun _ _ _ h_ => h_)
                    · intro o_ L_ F_ lab_ w_ ho_ hL_ hw_ hcl_ hb_ hr_ hq_; obtain rfl := Option.some.inj (ho_ : some _ = some o_); obtain ⟨cx, o93, o216, _⟩ := hq_
                      obtain ⟨q254, hl140, oa251, c252, rfl, s253, _⟩ := hr_ 7 (by decide) (hw_ 7 (by kernel_rfl))
                      replace hl140 : Gk.look F_ 140 = some (.slice oa251 x244.length c252) := hl140
                      refine LW.assign wn rfl hl140 ?_
                      refine LW.nil ?_; intro a_ ha_
                      exact ⟨rfl, _, _, ha_, ⟨oa251, c252, rfl, s253, trivial⟩, Ke.refl, cx, (o93), o216, trivial⟩
                  · intro F_ lab_ w_ hb_ hr_ hq_; obtain ⟨cx, _, o216, _⟩ := hq_
                    obtain ⟨q257, hl141, rfl, _⟩ := hr_ 8 (by decide)
                    obtain ⟨q261, hl12, oa258, c259, rfl, s260, _⟩ := hr_ 9 (by decide)
                    refine LW.sub (G := [(17, .int .i64 y94), (18, .slice oa211 x210.length c212), (141, .slice oa211 x210.length c212), (12, .slice oa258 x244.length c259)]) ⟨hb_ 17 _ rfl, hb_ 18 _ rfl, hl141, hl12, trivial⟩ ?_
                    simp only [List.drop_succ_cons, List.drop_zero]
                    refine LW.assign wn rfl rfl ?_
                    refine LW.assign wn rfl rfl ?_
                    refine LW.assign wn rfl rfl ?_
                    refine LW.nil ?_
                    refine EW.seq_n ?_
                    refine CW.ret ?_
                    refine EW.block_r ?_
                    refine EW.seq_r ?_
                    obtain rfl := Option.some.inj hm
                    exact EW.rets (vs := [.slice oa258 x244.length c259, .slice oa211 x210.length c212, .bool true, .int .i64 0]) rfl ⟨rfl, rfl, rfl, rfl, trivial⟩ rfl ⟨oa258, c259, oa211, c212, rfl, (cx.ste t), (s260.sl (cx.keeps t) (cx.own0 t rfl)), (o216.sl (cx.keeps t) (cx.own0 t rfl)), trivial⟩
                · replace hm := cond_f hm hb225
                  refine CW.seq ?_
                  refine CW.region ?_
                  refine LW.fldB 1 kFld_26_1 rfl wn rfl rfl ?_
                  refine LW.loadB1 b14 kOne_4 rfl wn rfl rfl ?_
                  refine LW.not hm wn rfl rfl ?_; clear hm; intro x262 hm
                  refine LW.assign wn rfl rfl ?_
                  refine LW.nil ?_
                  refine EW.seq_n ?_
                  refine CW.cond (b := x262) rfl (fun hb263 => ?_) (fun hb263 => ?_)
                  · replace hm := cond_t hm hb263
                    refine CW.seq ?_
                    refine CW.region ?_
                    refine LW.move wn rfl rfl ?_
                    refine LW.move wn rfl rfl ?_
                    refine LW.assign wn rfl rfl ?_
                    refine LW.assign wn rfl rfl ?_
                    refine LW.assign wn rfl rfl ?_
                    refine LW.assign wn rfl rfl ?_
                    refine LW.nil ?_
                    refine EW.seq_n ?_
                    refine CW.ret ?_
                    refine EW.block_r ?_
                    refine EW.seq_r ?_
                    obtain rfl := Option.some.inj hm
                    exact EW.rets (vs := [.slice oa91 y85.length c92, .slice oa211 x210.length c212, .bool true, .int .i64 0]) rfl ⟨rfl, rfl, rfl, rfl, trivial⟩ rfl ⟨oa91, c92, oa211, c212, rfl, (cx.ste t), (o93.sl (cx.keeps t) (cx.own0 t rfl)), (o216.sl (cx.keeps t) (cx.own0 t rfl)), trivial⟩
                  · replace hm := cond_f hm hb263
                    refine CW.seq ?_
                    refine CW.region ?_
                    refine LW.move wn rfl rfl ?_
                    refine LW.geq hm wn rfl rfl rfl ?_; clear hm; intro x264 hm
                    refine LW.assign wn rfl rfl ?_
                    refine LW.nil ?_
                    refine EW.seq_n ?_
                    refine CW.cond (b := x264) rfl (fun hb265 => ?_) (fun hb265 => ?_)
                    · replace hm := cond_t hm hb265
                      refine CW.seq ?_
                      refine CW.region ?_
                      refine LW.move wn rfl rfl ?_
                      refine LW.move wn rfl rfl ?_
                      refine LW.move wn rfl rfl ?_
                      refine LW.move wn rfl rfl ?_
                      refine LW.move wn rfl rfl ?_
                      refine LW.move wn rfl rfl ?_
                      refine LW.add hm wn rfl rfl rfl ?_; clear hm; intro x266 hm
                      refine LW.indexO hm o93 kSl_22 wn rfl rfl rfl ?_; clear hm; intro x271 p267 cs268 hm hr269 ha270 he272 hp273
                      obtain ⟨oa274, c275, oa277, c278, rfl, s276, s279, _⟩ := hr269
                      refine LW.fldA kFld_63_2 wn rfl rfl ?_
                      have s280 := Own.view o216; replace cx := cx.mask (k := 28) rfl
                      replace o93 := o93.mask (k' := 28) rfl
                      replace s6 := s6.keep (Keeps.mask (k := 28))
                      replace ha270 := At.mm (j := 28) ha270
                      replace s276 := s276.keep (Keeps.mask (k := 28))
                      replace s279 := s279.keep (Keeps.mask (k := 28))
                      refine LW.storeO1 (e' := (S_api_Partial.mk x271.Peer x271.Key x210 x271.Until)) hm o93 hp273 ha270 he272 cx.top rfl kOne_24 rfl rfl (show _ from ⟨_, _, _, _, rfl, s276, s280, trivial⟩) rfl rfl wn rfl rfl ?_; clear hm; intro x281 w282 hm hl_ e283 o284; rw [show Value.slice oa91 y85.length c92 = Value.slice oa91 x281.length c92 from by rw [hl_]]; clear hl_
                      replace cx := cx.step e283 rfl
                      replace s6 := s6.step e283
                      replace s280 := s280.step e283
                      replace s276 := s276.step e283
                      replace s279 := s279.step e283
                      clear e283
                      refine LW.indexO hm o284 kSl_22 wn rfl rfl rfl ?_; clear hm; intro x289 p285 cs286 hm hr287 ha288 he290 hp291
                      obtain ⟨oa292, c293, oa295, c296, rfl, s294, s297, _⟩ := hr287
                      refine LW.fldA kFld_63_3 wn rfl rfl ?_
                      refine LW.storeO1 (e' := (S_api_Partial.mk x289.Peer x289.Key x289.Data x266)) hm o284 hp291 ha288 he290 cx.top rfl kOne_3 rfl rfl (show _ from ⟨_, _, _, _, rfl, s294, s297, trivial⟩) rfl rfl wn rfl rfl ?_; clear hm; intro x298 w299 hm hl_ e300 o301; rw [show Value.slice oa91 x281.length c92 = Value.slice oa91 x298.length c92 from by rw [hl_]]; clear hl_
                      replace cx := cx.step e300 rfl
                      replace s6 := s6.step e300
                      replace s280 := s280.step e300
                      replace s294 := s294.step e300
                      replace s297 := s297.step e300
                      clear e300
                      refine LW.nil ?_
                      refine EW.seq_n ?_
                      refine CW.seq ?_
                      refine CW.region ?_
                      refine LW.move wn rfl rfl ?_
                      refine LW.assign wn rfl rfl ?_
                      refine LW.assign wn rfl rfl ?_
                      refine LW.assign wn rfl rfl ?_
                      refine LW.assign wn rfl rfl ?_
                      refine LW.nil ?_
                      refine EW.seq_n ?_
                      refine CW.ret ?_
                      refine EW.block_r ?_
                      refine EW.seq_r ?_
                      obtain rfl := Option.some.inj hm
                      exact EW.rets (vs := [.slice oa91 x298.length c92, .slice none 0 0, .bool false, .int .i64 0]) rfl ⟨rfl, rfl, rfl, rfl, trivial⟩ rfl ⟨oa91, c92, none, 0, rfl, (cx.ste t), (o301.sl (cx.keeps t) (cx.own0 t rfl)), SL.nil, trivial⟩
                    · replace hm := cond_f hm hb265
                      refine CW.seq ?_
                      refine CW.region ?_
                      refine LW.move wn rfl rfl ?_
                      refine LW.len kUnd_22 wn rfl rfl ?_
                      refine LW.geq hm wn rfl rfl rfl ?_; clear hm; intro x302 hm
                      refine LW.assign wn rfl rfl ?_
                      refine LW.nil ?_
                      refine EW.seq_n ?_
                      refine CW.cond (b := x302) rfl (fun hb303 => ?_) (fun hb303 => ?_)
                      · replace hm := cond_t hm hb303
                        refine CW.seq ?_
                        refine CW.region ?_
                        refine LW.assign wn rfl rfl ?_
                        refine LW.assign wn rfl rfl ?_
                        refine LW.assign wn rfl rfl ?_
                        refine LW.assign wn rfl rfl ?_
                        refine LW.nil ?_
                        refine EW.seq_n ?_
                        refine CW.ret ?_
                        refine EW.block_r ?_
                        refine EW.seq_r ?_
                        obtain rfl := Option.some.inj hm
                        exact EW.rets (vs := [.slice none 0 0, .slice none 0 0, .bool false, .int .i64 16]) rfl ⟨rfl, rfl, rfl, rfl, trivial⟩ rfl ⟨none, 0, none, 0, rfl, (cx.ste t), SL.nil, SL.nil, trivial⟩
                      · replace hm := cond_f hm hb303
                        refine CW.skip ?_
                        refine EW.block_n ?_
                        refine EW.seq_n ?_
                        refine CW.seq ?_
                        refine CW.region ?_
                        refine LW.move wn rfl rfl ?_
                        refine LW.move wn rfl rfl ?_
                        refine LW.move wn rfl rfl ?_
                        obtain ⟨y304, h308, hm_⟩ := bnd_some hm; clear hm; have hm := hm_; clear hm_
                        refine LW.call kFn_33 (c_bytes_Clone h308 cx.top s6) wn rfl rfl ?_
                        rintro _ w305 ⟨oa309, c310, rfl, e306, s311, _⟩; refine ⟨_, rfl, ?_⟩
                        replace cx := cx.step e306 rfl
                        replace o93 := o93.step e306 rfl
                        replace s6 := s6.step e306
                        replace o216 := o216.step e306 rfl
                        clear e306
                        refine LW.move wn rfl rfl ?_
                        refine LW.move wn rfl rfl ?_
                        refine LW.add hm wn rfl rfl rfl ?_; clear hm; intro x312 hm
                        have s313 := Own.view o216; replace cx := cx.mask (k := 28) rfl
                        replace o93 := o93.mask (k' := 28) rfl
                        replace s6 := s6.keep (Keeps.mask (k := 28))
                        replace s311 := s311.keep (Keeps.mask (k := 28))
                        refine LW.build (vs := [(0, .int .i64 a1), (1, .slice oa309 y304.length c310), (2, .slice oa211 x210.length c212), (3, .int .i64 x312)]) (cs := [.int .i64 a1, .slice oa309 y304.length c310, .slice oa211 x210.length c212, .int .i64 x312]) rfl ((kBuilt_63 _).trans rfl) wn rfl ?_
                        refine LW.buildSlice (ρ := R_api_Partial) (vs := [(0, .agg ([.int .i64 a1, .slice oa309 y304.length c310, .slice oa211 x210.length c212, .int .i64 x312] : List Value).toArray)]) (css := [[.int .i64 a1, .slice oa309 y304.length c310, .slice oa211 x210.length c212, .int .i64 x312]]) (xs := [(S_api_Partial.mk a1 y304 x210 x312)]) rfl kSl_22 kZero_63 (by kernel_rfl) rfl rfl ⟨⟨_, _, _, _, rfl, s311, s313, trivial⟩, trivial⟩ cx.top wn rfl ?_
                        intro oa314 c315 lab318 w319 e316 s317
                        replace cx := cx.step e316 rfl
                        replace o93 := o93.step e316 rfl
                        replace s6 := s6.step e316
                        replace s313 := s313.step e316
                        replace s311 := s311.step e316
                        clear e316
                        refine LW.append (ρ := R_api_Partial) (xs := y85) (ys := [(S_api_Partial.mk a1 y304 x210 x312)]) hm o93 (SL.flat' (lab := _) (c := c315) s317) cx.top rfl kSl_22 rfl wn rfl rfl rfl ?_; clear hm; intro x320 oa321 c322 lab323 w324 hm e325 o326
                        replace cx := cx.step e325 rfl
                        replace s6 := s6.step e325
                        replace s313 := s313.step e325
                        replace s311 := s311.step e325
                        replace s317 := s317.step e325
                        clear e325
                        refine LW.assign wn rfl rfl ?_
                        refine LW.assign wn rfl rfl ?_
                        refine LW.assign wn rfl rfl ?_
                        refine LW.assign wn rfl rfl ?_
                        refine LW.nil ?_
                        refine EW.seq_n ?_
                        refine CW.ret ?_
                        obtain rfl := Option.some.inj hm
                        exact EW.rets (vs := [.slice oa321 x320.length c322, .slice none 0 0, .bool false, .int .i64 0]) rfl ⟨rfl, rfl, rfl, rfl, trivial⟩ rfl ⟨oa321, c322, none, 0, rfl, (cx.ste t), (o326.sl (cx.keeps t) (cx.own0 t rfl)), SL.nil, trivial⟩
set_option linter.unusedVariables false in
def m_block_Blocks (a0 : Int) (a1 : Int) : Option (Int) :=
  bnd (letm (decide (a0 < 0)) fun x5 =>
  (cond x5 (some (true))
   (letm (decide (1073741824 < a0)) fun x8 =>
  (cond x8 (some (true))
   (letm (decide (a1 < 0)) fun x11 =>
  (cond x11 (some (true))
   (letm (decide (6 < a1)) fun x14 =>
  some (x14))))))) : Option (Bool)) fun y1 =>
  (cond y1 (some 0)
   (bnd (m_block_length a1) fun y16 =>
  letm (w64 (a0 + y16)) fun x21 =>
  letm (w64 (x21 - 1)) fun x22 =>
  letm (w64 (4 + a1)) fun x23 =>
  bnd (Gk.shr x22 x23) fun x24 =>
  letm (max 1 x24) fun x25 =>
  some x25))
set_option maxRecDepth 100000 in
set_option maxHeartbeats 2000000 in
theorem c_block_Blocks {lab : Lab} {w : World} {a0 : Int} {a1 : Int} {r : Int} (hm : m_block_Blocks a0 a1 = some r) (t : Top lab w) : Calls Try.prog 23 [.int .i64 a0, .int .i64 a1].toArray w (fun e w' => e = .returned (.int .i64 r) ∧ Ste lab 0 w lab w' ∧ True) := by
  refine enter Try.func23 rfl 28 rfl rfl ?_
  have cx := Cx.start t
  refine CW.sub (G := [(0, .int .i64 a0), (1, .int .i64 a1)]) ⟨rfl, rfl, trivial⟩ ?_
  unfold m_block_Blocks at hm
  refine CW.seq ?_
  refine CW.region ?_
  refine LW.assign wn rfl rfl ?_
  refine LW.nil ?_
  refine EW.seq_n ?_
  refine CW.seq ?_
  refine CW.seq ?_
  obtain ⟨y1, h2, hm_⟩ := bnd_some hm; clear hm
  refine CW.join_any (fun F_ w3 => ∃ (lab4 : Lab) , F_ = [(0, .int .i64 a0), (1, .int .i64 a1), (18, .bool y1)] ∧ Cx [] w lab w3 lab4 ∧ True) ?_ ?_
  · have hm := h2; clear h2
    refine CW.region ?_
    refine LW.move wn rfl rfl ?_
    refine LW.lss hm wn rfl rfl rfl ?_; clear hm; intro x5 hm
    refine LW.move wn rfl rfl ?_
    rcases Bool.eq_false_or_eq_true x5 with hb7 | hb7
    · replace hm := cond_t hm hb7
      refine LW.skip 7 rfl (bk rfl hb7) rfl rfl ?_
      refine LW.skip 7 rfl (bk rfl hb7) rfl rfl ?_
      refine LW.pick_t wn rfl (bk rfl hb7) rfl ?_
      refine LW.move wn rfl rfl ?_
      refine LW.skip 11 rfl rfl rfl rfl ?_
      refine LW.skip 11 rfl rfl rfl rfl ?_
      refine LW.pick_t wn rfl rfl rfl ?_
      refine LW.move wn rfl rfl ?_
      refine LW.skip 15 rfl rfl rfl rfl ?_
      refine LW.skip 15 rfl rfl rfl rfl ?_
      refine LW.pick_t wn rfl rfl rfl ?_
      refine LW.nil ?_
      obtain rfl := Option.some.inj hm
      refine EW.sub (G := [(0, .int .i64 a0), (1, .int .i64 a1), (18, .bool true)]) ⟨rfl, rfl, rfl, trivial⟩ ?_
      exact EW.join_n ⟨_, rfl, cx, trivial⟩
    · replace hm := cond_f hm hb7
      refine LW.move (ws 7 rfl (bk rfl hb7)) rfl rfl ?_
      refine LW.gtr hm (ws 7 rfl (bk rfl hb7)) rfl rfl rfl ?_; clear hm; intro x8 hm
      refine LW.pick_f wn rfl (bk rfl hb7) rfl ?_
      refine LW.move wn rfl rfl ?_
      rcases Bool.eq_false_or_eq_true x8 with hb10 | hb10
      · replace hm := cond_t hm hb10
        refine LW.skip 11 rfl (bk rfl hb10) rfl rfl ?_
        refine LW.skip 11 rfl (bk rfl hb10) rfl rfl ?_
        refine LW.pick_t wn rfl (bk rfl hb10) rfl ?_
        refine LW.move wn rfl rfl ?_
        refine LW.skip 15 rfl rfl rfl rfl ?_
        refine LW.skip 15 rfl rfl rfl rfl ?_
        refine LW.pick_t wn rfl rfl rfl ?_
        refine LW.nil ?_
        obtain rfl := Option.some.inj hm
        refine EW.sub (G := [(0, .int .i64 a0), (1, .int .i64 a1), (18, .bool true)]) ⟨rfl, rfl, rfl, trivial⟩ ?_
        exact EW.join_n ⟨_, rfl, cx, trivial⟩
      · replace hm := cond_f hm hb10
        refine LW.move (ws 11 rfl (bk rfl hb10)) rfl rfl ?_
        refine LW.lss hm (ws 11 rfl (bk rfl hb10)) rfl rfl rfl ?_; clear hm; intro x11 hm
        refine LW.pick_f wn rfl (bk rfl hb10) rfl ?_
        refine LW.move wn rfl rfl ?_
        rcases Bool.eq_false_or_eq_true x11 with hb13 | hb13
        · replace hm := cond_t hm hb13
          refine LW.skip 15 rfl (bk rfl hb13) rfl rfl ?_
          refine LW.skip 15 rfl (bk rfl hb13) rfl rfl ?_
          refine LW.pick_t wn rfl (bk rfl hb13) rfl ?_
          refine LW.nil ?_
          obtain rfl := Option.some.inj hm
          refine EW.sub (G := [(0, .int .i64 a0), (1, .int .i64 a1), (18, .bool true)]) ⟨rfl, rfl, rfl, trivial⟩ ?_
          exact EW.join_n ⟨_, rfl, cx, trivial⟩
        · replace hm := cond_f hm hb13
          refine LW.move (ws 15 rfl (bk rfl hb13)) rfl rfl ?_
          refine LW.gtr hm (ws 15 rfl (bk rfl hb13)) rfl rfl rfl ?_; clear hm; intro x14 hm
          refine LW.pick_f wn rfl (bk rfl hb13) rfl ?_
          refine LW.nil ?_
          obtain rfl := Option.some.inj hm
          refine EW.sub (G := [(0, .int .i64 a0), (1, .int .i64 a1), (18, .bool x14)]) ⟨rfl, rfl, rfl, trivial⟩ ?_
          exact EW.join_n ⟨_, rfl, cx, trivial⟩
  · rintro _ w3 ⟨lab4, rfl, cx, _⟩
    have hm := hm_; clear hm_
    refine EW.seq_n ?_
    refine CW.cond (b := y1) rfl (fun hb15 => ?_) (fun hb15 => ?_)
    · replace hm := cond_t hm hb15
      refine CW.seq ?_
      refine CW.region ?_
      refine LW.assign wn rfl rfl ?_
      refine LW.nil ?_
      refine EW.seq_n ?_
      refine CW.ret ?_
      refine EW.seq_r ?_
      obtain rfl := Option.some.inj hm
      exact EW.ret1 rfl rfl ⟨rfl, (cx.ste t), trivial⟩
    · replace hm := cond_f hm hb15
      refine CW.skip ?_
      refine EW.seq_n ?_
      refine CW.seq ?_
      refine CW.region ?_
      refine LW.move wn rfl rfl ?_
      refine LW.move wn rfl rfl ?_
      obtain ⟨y16, h20, hm_⟩ := bnd_some hm; clear hm; have hm := hm_; clear hm_
      refine LW.call kFn_31 (c_block_length h20 cx.top) wn rfl rfl ?_
      rintro _ w17 ⟨rfl, e18, _⟩; refine ⟨_, rfl, ?_⟩
      replace cx := cx.step e18 rfl
      clear e18
      refine LW.add hm wn rfl rfl rfl ?_; clear hm; intro x21 hm
      refine LW.sub' hm wn rfl rfl rfl ?_; clear hm; intro x22 hm
      refine LW.move wn rfl rfl ?_
      refine LW.add hm wn rfl rfl rfl ?_; clear hm; intro x23 hm
      refine LW.shr hm wn rfl rfl rfl ?_; clear hm; intro x24 hm
      refine LW.max2 hm wn rfl rfl rfl ?_; clear hm; intro x25 hm
      refine LW.assign wn rfl rfl ?_
      refine LW.nil ?_
      refine EW.seq_n ?_
      refine CW.ret ?_
      obtain rfl := Option.some.inj hm
      exact EW.ret1 rfl rfl ⟨rfl, (cx.ste t), trivial⟩
end Go.Proofs.Ytaefnnamjphieaa
