/-
  Package coresecref18: models of its functions, and that the functions compute them. No condition but that the model has a value.
-/
import Derived.Test.YtaefnnamjphieaaPCoresecref18
namespace Go.Proofs.Ytaefnnamjphieaa
open Go.Gk Go.RowKit
set_option linter.unusedVariables false in
def m_coresecref18_Put_l1 (a1 : Int) (a2 : List UInt8) (a3 : S_api_Block) (a5 : Int) : List S_api_Partial → Nat → (List S_api_Partial) → Int → Option ((List S_api_Partial) × Int)
    | [], k109, x101, x102 => some ((x101, x102))
    | x111 :: rem110, k109, x101, x102 => bnd (letm (x111.Peer == a1) fun x134 =>
  (cond x134 (letm (x111.Key == a2) fun x137 =>
  some (x137))
   (some (false))) : Option (Bool)) fun y130 =>
  bnd (letm (decide (x111.Until ≤ a5)) fun x142 =>
  (cond x142 (some (true))
   ((cond y130 (letm (a3.Num == 0) fun x147 =>
  some (x147))
   (some (false))))) : Option (Bool)) fun y138 =>
  (cond y138 (m_coresecref18_Put_l1 a1 a2 a3 a5 rem110 (k109 + 1) x101 x102)
   (bnd ((cond y130 (some ((x101.length : Int)))
   (some (x102))) : Option (Int)) fun y149 =>
  bnd (app ([] : List UInt8) x111.Key) fun x157 =>
  bnd (app ([] : List UInt8) x111.Data) fun x166 =>
  bnd (app x101 ([(S_api_Partial.mk x111.Peer x157 x166 x111.Until)])) fun x202 =>
  m_coresecref18_Put_l1 a1 a2 a3 a5 rem110 (k109 + 1) x202 y149))
set_option linter.unusedVariables false in
def m_coresecref18_Put (a0 : List S_api_Partial) (a1 : Int) (a2 : List UInt8) (a3 : S_api_Block) (a4 : List UInt8) (a5 : Int) : Option ((List S_api_Partial) × (List UInt8) × Bool × Int) :=
  bnd (bnd (m_coresecref18_Valid a0) fun y19 =>
  letm (!y19) fun x24 =>
  (cond x24 (some (true))
   (letm (decide (a1 < 0)) fun x27 =>
  (cond x27 (some (true))
   (letm (decide (65536 < a1)) fun x30 =>
  (cond x30 (some (true))
   (letm (decide (4096 < (a2.length : Int))) fun x33 =>
  (cond x33 (some (true))
   (bnd (m_coresecref18_valid (S_api_Block.mk a3.Num a3.More a3.Size)) fun y36 =>
  letm (!y36) fun x41 =>
  (cond x41 (some (true))
   (letm (decide (a5 < 0)) fun x44 =>
  (cond x44 (some (true))
   (letm (decide (1073741824 < a5)) fun x47 =>
  some (x47))))))))))))) : Option (Bool)) fun y15 =>
  (cond y15 (some ([], [], false, 1))
   (bnd ((cond a3.More (bnd (m_coresecref18_length a3.Size) fun y55 =>
  letm ((a4.length : Int) != y55) fun x60 =>
  (cond x60 (some (true))
   (letm (!a3.More) fun x63 =>
  (cond x63 (bnd (m_coresecref18_length a3.Size) fun y66 =>
  letm (decide (y66 < (a4.length : Int))) fun x71 =>
  (cond x71 (some (true))
   (letm ((a4.length : Int) == 0) fun x74 =>
  (cond x74 (letm (decide (0 < a3.Num)) fun x77 =>
  some (x77))
   (some (false))))))
   (some (false))))))
   (letm (!a3.More) fun x78 =>
  (cond x78 (bnd (m_coresecref18_length a3.Size) fun y81 =>
  letm (decide (y81 < (a4.length : Int))) fun x86 =>
  (cond x86 (some (true))
   (letm ((a4.length : Int) == 0) fun x89 =>
  (cond x89 (letm (decide (0 < a3.Num)) fun x92 =>
  some (x92))
   (some (false))))))
   (some (false))))) : Option (Bool)) fun y49 =>
  (cond y49 (some ([], [], false, 4))
   (bnd (m_coresecref18_Put_l1 a1 a2 a3 a5 a0 0 ([]) (-1) : Option ((List S_api_Partial) × Int)) fun y94 =>
  letm (decide (0 < a3.Num)) fun x215 =>
  bndS ((cond x215 (bnd (letm (decide (y94.2 < 0)) fun x232 =>
  (cond x232 (some (true))
   (bnd (idx y94.1 y94.2) fun x249 =>
  bnd (m_coresecref18_length a3.Size) fun y291 =>
  letm (w64 (a3.Num * y291)) fun x298 =>
  letm ((x249.Data.length : Int) != x298) fun x302 =>
  some (x302))) : Option (Bool)) fun y227 =>
  (cond y227 (some (Sum.inl ([], [], false, 15)))
   (bnd (idx y94.1 y94.2) fun x313 =>
  bnd (app ([] : List UInt8) x313.Data) fun x322 =>
  some (Sum.inr x322))))
   (some (Sum.inr ([])))) : Option (((List S_api_Partial) × (List UInt8) × Bool × Int) ⊕ (List UInt8))) (fun q => q) fun y216 =>
  bnd (app y216 a4) fun x329 =>
  letm (decide (4096 < (x329.length : Int))) fun x336 =>
  (cond x336 (some ([], [], false, 8))
   (bnd (letm (!a3.More) fun x342 =>
  (cond x342 (letm (decide (0 ≤ y94.2)) fun x345 =>
  some (x345))
   (some (false))) : Option (Bool)) fun y338 =>
  (cond y338 (bnd (cut y94.1 0 y94.2) fun x349 =>
  bnd (app ([] : List S_api_Partial) x349) fun x353 =>
  letm (w64 (y94.2 + 1)) fun x361 =>
  bnd (cut y94.1 x361 y94.1.length) fun x364 =>
  bnd (app x353 x364) fun x376 =>
  some (x376, x329, true, 0))
   (letm (!a3.More) fun x394 =>
  (cond x394 (some (y94.1, x329, true, 0))
   (bnd (letm (decide (y94.2 < 0)) fun x400 =>
  (cond x400 (letm (decide (4 ≤ (y94.1.length : Int))) fun x403 =>
  some (x403))
   (some (false))) : Option (Bool)) fun y396 =>
  (cond y396 (some ([], [], false, 16))
   (bnd (app ([] : List UInt8) a2) fun x405 =>
  letm (w64 (a5 + 128)) fun x412 =>
  letm (decide (y94.2 < 0)) fun x423 =>
  (cond x423 (bnd (app y94.1 ([(S_api_Partial.mk a1 x405 x329 x412)])) fun x431 =>
  some (x431, [], false, 0))
   (bnd (idx y94.1 y94.2) fun x442 =>
  letm (y94.1.set (y94.2.toNat) (S_api_Partial.mk a1 x405 x329 x412)) fun x451 =>
  some (x451, [], false, 0)))))))))))))))
set_option maxRecDepth 100000 in
set_option maxHeartbeats 2000000 in
theorem c_coresecref18_Put {lab : Lab} {w : World} {a0 : List S_api_Partial} {a1 : Int} {a2 : List UInt8} {a3 : S_api_Block} {a4 : List UInt8} {a5 : Int} {r : (List S_api_Partial) × (List UInt8) × Bool × Int} (hm : m_coresecref18_Put a0 a1 a2 a3 a4 a5 = some r) (t : Top lab w) {oa1 : Option Addr} {c2 : Nat} (s3 : SL R_api_Partial lab w oa1 c2 a0) {oa4 : Option Addr} {c5 : Nat} (s6 : SL Rep.u8 lab w oa4 c5 a2) {oa7 : Option Addr} {c8 : Nat} (s9 : SL Rep.u8 lab w oa7 c8 a4) : Calls Try.prog 18 [.slice oa1 a0.length c2, .int .i64 a1, .slice oa4 a2.length c5, .agg ([.int .i64 a3.Num, .bool a3.More, .int .i64 a3.Size] : List Value).toArray, .slice oa7 a4.length c8, .int .i64 a5].toArray w (fun e w' => ∃ (oa0_0 : Option Addr) (c0_0 : Nat) (oa1_0 : Option Addr) (c1_0 : Nat), e = .returned (.tuple [.slice oa0_0 r.1.length c0_0, .slice oa1_0 r.2.1.length c1_0, .bool r.2.2.1, .int .i64 r.2.2.2].toArray) ∧ Ste lab 0 w lab w' ∧ SL R_api_Partial lab w' oa0_0 c0_0 r.1 ∧ SL Rep.u8 lab w' oa1_0 c1_0 r.2.1 ∧ True) := by
  refine enter Try.func18 rfl 216 rfl rfl ?_
  have cx := Cx.start t
  replace s3 := s3.keep Keeps.lin
  replace s6 := s6.keep Keeps.lin
  replace s9 := s9.keep Keeps.lin
  refine CW.sub (G := [(0, .slice oa1 a0.length c2), (1, .int .i64 a1), (2, .slice oa4 a2.length c5), (3, .agg ([.int .i64 a3.Num, .bool a3.More, .int .i64 a3.Size] : List Value).toArray), (4, .slice oa7 a4.length c8), (5, .int .i64 a5)]) ⟨rfl, rfl, rfl, rfl, rfl, rfl, trivial⟩ ?_
  unfold m_coresecref18_Put at hm
  refine CW.seq ?_
  refine CW.region ?_
  refine LW.box 19 [.int .i64 a3.Num, .bool a3.More, .int .i64 a3.Size] rfl rfl cx.top wn rfl ?_
  intro g10 lab11 w12 e13 b14
  replace cx := cx.step e13 rfl
  replace s3 := s3.step e13
  replace s6 := s6.step e13
  replace s9 := s9.step e13
  clear e13
  refine LW.assign wn rfl rfl ?_
  refine LW.assign wn rfl rfl ?_
  refine LW.assign wn rfl rfl ?_
  refine LW.assign wn rfl rfl ?_
  refine LW.nil ?_
  refine EW.seq_n ?_
  refine CW.seq ?_
  refine CW.seq ?_
  obtain ⟨y15, h16, hm_⟩ := bnd_some hm; clear hm
  refine CW.join_any (fun F_ w17 => ∃ (lab18 : Lab) , F_ = [(0, .slice oa1 a0.length c2), (1, .int .i64 a1), (2, .slice oa4 a2.length c5), (4, .slice oa7 a4.length c8), (5, .int .i64 a5), (9, .pointer (some ⟨g10, 0, none⟩)), (52, .bool y15)] ∧ Cx [] w lab w17 lab18 ∧ SL R_api_Partial lab18 w17 oa1 c2 a0 ∧ SL Rep.u8 lab18 w17 oa4 c5 a2 ∧ SL Rep.u8 lab18 w17 oa7 c8 a4 ∧ Box lab18 w17 19 g10 26 [.int .i64 a3.Num, .bool a3.More, .int .i64 a3.Size] ∧ True) ?_ ?_
  · have hm := h16; clear h16
    refine CW.region ?_
    refine LW.move wn rfl rfl ?_
    obtain ⟨y19, h23, hm_⟩ := bnd_some hm; clear hm; have hm := hm_; clear hm_
    refine LW.call kFn_15 (c_coresecref18_Valid h23 cx.top s3) wn rfl rfl ?_
    rintro _ w20 ⟨rfl, e21, _⟩; refine ⟨_, rfl, ?_⟩
    replace cx := cx.step e21 rfl
    replace s3 := s3.step e21
    replace s6 := s6.step e21
    replace s9 := s9.step e21
    replace b14 := b14.step e21 rfl
    clear e21
    refine LW.not hm wn rfl rfl ?_; clear hm; intro x24 hm
    refine LW.move wn rfl rfl ?_
    rcases Bool.eq_false_or_eq_true x24 with hb26 | hb26
    · replace hm := cond_t hm hb26
      refine LW.skip 27 rfl (bk rfl hb26) rfl rfl ?_
      refine LW.skip 27 rfl (bk rfl hb26) rfl rfl ?_
      refine LW.pick_t wn rfl (bk rfl hb26) rfl ?_
      refine LW.move wn rfl rfl ?_
      refine LW.skip 31 rfl rfl rfl rfl ?_
      refine LW.skip 31 rfl rfl rfl rfl ?_
      refine LW.pick_t wn rfl rfl rfl ?_
      refine LW.move wn rfl rfl ?_
      refine LW.skip 35 rfl rfl rfl rfl ?_
      refine LW.skip 35 rfl rfl rfl rfl ?_
      refine LW.skip 35 rfl rfl rfl rfl ?_
      refine LW.pick_t wn rfl rfl rfl ?_
      refine LW.move wn rfl rfl ?_
      refine LW.skip 40 rfl rfl rfl rfl ?_
      refine LW.skip 40 rfl rfl rfl rfl ?_
      refine LW.skip 40 rfl rfl rfl rfl ?_
      refine LW.pick_t wn rfl rfl rfl ?_
      refine LW.move wn rfl rfl ?_
      refine LW.skip 45 rfl rfl rfl rfl ?_
      refine LW.skip 45 rfl rfl rfl rfl ?_
      refine LW.pick_t wn rfl rfl rfl ?_
      refine LW.move wn rfl rfl ?_
      refine LW.skip 49 rfl rfl rfl rfl ?_
      refine LW.skip 49 rfl rfl rfl rfl ?_
      refine LW.pick_t wn rfl rfl rfl ?_
      refine LW.nil ?_
      obtain rfl := Option.some.inj hm
      refine EW.sub (G := [(0, .slice oa1 a0.length c2), (1, .int .i64 a1), (2, .slice oa4 a2.length c5), (4, .slice oa7 a4.length c8), (5, .int .i64 a5), (9, .pointer (some ⟨g10, 0, none⟩)), (52, .bool true)]) ⟨rfl, rfl, rfl, rfl, rfl, rfl, rfl, trivial⟩ ?_
      exact EW.join_n ⟨_, rfl, cx, s3, s6, s9, b14, trivial⟩
    · replace hm := cond_f hm hb26
      refine LW.move (ws 27 rfl (bk rfl hb26)) rfl rfl ?_
      refine LW.lss hm (ws 27 rfl (bk rfl hb26)) rfl rfl rfl ?_; clear hm; intro x27 hm
      refine LW.pick_f wn rfl (bk rfl hb26) rfl ?_
      refine LW.move wn rfl rfl ?_
      rcases Bool.eq_false_or_eq_true x27 with hb29 | hb29
      · replace hm := cond_t hm hb29
        refine LW.skip 31 rfl (bk rfl hb29) rfl rfl ?_
        refine LW.skip 31 rfl (bk rfl hb29) rfl rfl ?_
        refine LW.pick_t wn rfl (bk rfl hb29) rfl ?_
        refine LW.move wn rfl rfl ?_
        refine LW.skip 35 rfl rfl rfl rfl ?_
        refine LW.skip 35 rfl rfl rfl rfl ?_
        refine LW.skip 35 rfl rfl rfl rfl ?_
        refine LW.pick_t wn rfl rfl rfl ?_
        refine LW.move wn rfl rfl ?_
        refine LW.skip 40 rfl rfl rfl rfl ?_
        refine LW.skip 40 rfl rfl rfl rfl ?_
        refine LW.skip 40 rfl rfl rfl rfl ?_
        refine LW.pick_t wn rfl rfl rfl ?_
        refine LW.move wn rfl rfl ?_
        refine LW.skip 45 rfl rfl rfl rfl ?_
        refine LW.skip 45 rfl rfl rfl rfl ?_
        refine LW.pick_t wn rfl rfl rfl ?_
        refine LW.move wn rfl rfl ?_
        refine LW.skip 49 rfl rfl rfl rfl ?_
        refine LW.skip 49 rfl rfl rfl rfl ?_
        refine LW.pick_t wn rfl rfl rfl ?_
        refine LW.nil ?_
        obtain rfl := Option.some.inj hm
        refine EW.sub (G := [(0, .slice oa1 a0.length c2), (1, .int .i64 a1), (2, .slice oa4 a2.length c5), (4, .slice oa7 a4.length c8), (5, .int .i64 a5), (9, .pointer (some ⟨g10, 0, none⟩)), (52, .bool true)]) ⟨rfl, rfl, rfl, rfl, rfl, rfl, rfl, trivial⟩ ?_
        exact EW.join_n ⟨_, rfl, cx, s3, s6, s9, b14, trivial⟩
      · replace hm := cond_f hm hb29
        refine LW.move (ws 31 rfl (bk rfl hb29)) rfl rfl ?_
        refine LW.gtr hm (ws 31 rfl (bk rfl hb29)) rfl rfl rfl ?_; clear hm; intro x30 hm
        refine LW.pick_f wn rfl (bk rfl hb29) rfl ?_
        refine LW.move wn rfl rfl ?_
        rcases Bool.eq_false_or_eq_true x30 with hb32 | hb32
        · replace hm := cond_t hm hb32
          refine LW.skip 35 rfl (bk rfl hb32) rfl rfl ?_
          refine LW.skip 35 rfl (bk rfl hb32) rfl rfl ?_
          refine LW.skip 35 rfl (bk rfl hb32) rfl rfl ?_
          refine LW.pick_t wn rfl (bk rfl hb32) rfl ?_
          refine LW.move wn rfl rfl ?_
          refine LW.skip 40 rfl rfl rfl rfl ?_
          refine LW.skip 40 rfl rfl rfl rfl ?_
          refine LW.skip 40 rfl rfl rfl rfl ?_
          refine LW.pick_t wn rfl rfl rfl ?_
          refine LW.move wn rfl rfl ?_
          refine LW.skip 45 rfl rfl rfl rfl ?_
          refine LW.skip 45 rfl rfl rfl rfl ?_
          refine LW.pick_t wn rfl rfl rfl ?_
          refine LW.move wn rfl rfl ?_
          refine LW.skip 49 rfl rfl rfl rfl ?_
          refine LW.skip 49 rfl rfl rfl rfl ?_
          refine LW.pick_t wn rfl rfl rfl ?_
          refine LW.nil ?_
          obtain rfl := Option.some.inj hm
          refine EW.sub (G := [(0, .slice oa1 a0.length c2), (1, .int .i64 a1), (2, .slice oa4 a2.length c5), (4, .slice oa7 a4.length c8), (5, .int .i64 a5), (9, .pointer (some ⟨g10, 0, none⟩)), (52, .bool true)]) ⟨rfl, rfl, rfl, rfl, rfl, rfl, rfl, trivial⟩ ?_
          exact EW.join_n ⟨_, rfl, cx, s3, s6, s9, b14, trivial⟩
        · replace hm := cond_f hm hb32
          refine LW.move (ws 35 rfl (bk rfl hb32)) rfl rfl ?_
          refine LW.len kUnd_24 (ws 35 rfl (bk rfl hb32)) rfl rfl ?_
          refine LW.gtr hm (ws 35 rfl (bk rfl hb32)) rfl rfl rfl ?_; clear hm; intro x33 hm
          refine LW.pick_f wn rfl (bk rfl hb32) rfl ?_
          refine LW.move wn rfl rfl ?_
          rcases Bool.eq_false_or_eq_true x33 with hb35 | hb35
          · replace hm := cond_t hm hb35
            refine LW.skip 40 rfl (bk rfl hb35) rfl rfl ?_
            refine LW.skip 40 rfl (bk rfl hb35) rfl rfl ?_
            refine LW.skip 40 rfl (bk rfl hb35) rfl rfl ?_
            refine LW.pick_t wn rfl (bk rfl hb35) rfl ?_
            refine LW.move wn rfl rfl ?_
            refine LW.skip 45 rfl rfl rfl rfl ?_
            refine LW.skip 45 rfl rfl rfl rfl ?_
            refine LW.pick_t wn rfl rfl rfl ?_
            refine LW.move wn rfl rfl ?_
            refine LW.skip 49 rfl rfl rfl rfl ?_
            refine LW.skip 49 rfl rfl rfl rfl ?_
            refine LW.pick_t wn rfl rfl rfl ?_
            refine LW.nil ?_
            obtain rfl := Option.some.inj hm
            refine EW.sub (G := [(0, .slice oa1 a0.length c2), (1, .int .i64 a1), (2, .slice oa4 a2.length c5), (4, .slice oa7 a4.length c8), (5, .int .i64 a5), (9, .pointer (some ⟨g10, 0, none⟩)), (52, .bool true)]) ⟨rfl, rfl, rfl, rfl, rfl, rfl, rfl, trivial⟩ ?_
            exact EW.join_n ⟨_, rfl, cx, s3, s6, s9, b14, trivial⟩
          · replace hm := cond_f hm hb35
            refine LW.loadBn [.int .i64 a3.Num, .bool a3.More, .int .i64 a3.Size] b14 kAgg_26 rfl rfl (ws 40 rfl (bk rfl hb35)) rfl rfl ?_
            obtain ⟨y36, h40, hm_⟩ := bnd_some hm; clear hm; have hm := hm_; clear hm_
            refine LW.call kFn_34 (c_coresecref18_valid h40 cx.top) (ws 40 rfl (bk rfl hb35)) rfl rfl ?_
            rintro _ w37 ⟨rfl, e38, _⟩; refine ⟨_, rfl, ?_⟩
            replace cx := cx.step e38 rfl
            replace s3 := s3.step e38
            replace s6 := s6.step e38
            replace s9 := s9.step e38
            replace b14 := b14.step e38 rfl
            clear e38
            refine LW.not hm (ws 40 rfl (bk rfl hb35)) rfl rfl ?_; clear hm; intro x41 hm
            refine LW.pick_f wn rfl (bk rfl hb35) rfl ?_
            refine LW.move wn rfl rfl ?_
            rcases Bool.eq_false_or_eq_true x41 with hb43 | hb43
            · replace hm := cond_t hm hb43
              refine LW.skip 45 rfl (bk rfl hb43) rfl rfl ?_
              refine LW.skip 45 rfl (bk rfl hb43) rfl rfl ?_
              refine LW.pick_t wn rfl (bk rfl hb43) rfl ?_
              refine LW.move wn rfl rfl ?_
              refine LW.skip 49 rfl rfl rfl rfl ?_
              refine LW.skip 49 rfl rfl rfl rfl ?_
              refine LW.pick_t wn rfl rfl rfl ?_
              refine LW.nil ?_
              obtain rfl := Option.some.inj hm
              refine EW.sub (G := [(0, .slice oa1 a0.length c2), (1, .int .i64 a1), (2, .slice oa4 a2.length c5), (4, .slice oa7 a4.length c8), (5, .int .i64 a5), (9, .pointer (some ⟨g10, 0, none⟩)), (52, .bool true)]) ⟨rfl, rfl, rfl, rfl, rfl, rfl, rfl, trivial⟩ ?_
              exact EW.join_n ⟨_, rfl, cx, s3, s6, s9, b14, trivial⟩
            · replace hm := cond_f hm hb43
              refine LW.move (ws 45 rfl (bk rfl hb43)) rfl rfl ?_
              refine LW.lss hm (ws 45 rfl (bk rfl hb43)) rfl rfl rfl ?_; clear hm; intro x44 hm
              refine LW.pick_f wn rfl (bk rfl hb43) rfl ?_
              refine LW.move wn rfl rfl ?_
              rcases Bool.eq_false_or_eq_true x44 with hb46 | hb46
              · replace hm := cond_t hm hb46
                refine LW.skip 49 rfl (bk rfl hb46) rfl rfl ?_
                refine LW.skip 49 rfl (bk rfl hb46) rfl rfl ?_
                refine LW.pick_t wn rfl (bk rfl hb46) rfl ?_
                refine LW.nil ?_
                obtain rfl := Option.some.inj hm
                refine EW.sub (G := [(0, .slice oa1 a0.length c2), (1, .int .i64 a1), (2, .slice oa4 a2.length c5), (4, .slice oa7 a4.length c8), (5, .int .i64 a5), (9, .pointer (some ⟨g10, 0, none⟩)), (52, .bool true)]) ⟨rfl, rfl, rfl, rfl, rfl, rfl, rfl, trivial⟩ ?_
                exact EW.join_n ⟨_, rfl, cx, s3, s6, s9, b14, trivial⟩
              · replace hm := cond_f hm hb46
                refine LW.move (ws 49 rfl (bk rfl hb46)) rfl rfl ?_
                refine LW.gtr hm (ws 49 rfl (bk rfl hb46)) rfl rfl rfl ?_; clear hm; intro x47 hm
                refine LW.pick_f wn rfl (bk rfl hb46) rfl ?_
                refine LW.nil ?_
                obtain rfl := Option.some.inj hm
                refine EW.sub (G := [(0, .slice oa1 a0.length c2), (1, .int .i64 a1), (2, .slice oa4 a2.length c5), (4, .slice oa7 a4.length c8), (5, .int .i64 a5), (9, .pointer (some ⟨g10, 0, none⟩)), (52, .bool x47)]) ⟨rfl, rfl, rfl, rfl, rfl, rfl, rfl, trivial⟩ ?_
                exact EW.join_n ⟨_, rfl, cx, s3, s6, s9, b14, trivial⟩
  · rintro _ w17 ⟨lab18, rfl, cx, s3, s6, s9, b14, _⟩
    have hm := hm_; clear hm_
    refine EW.seq_n ?_
    refine CW.cond (b := y15) rfl (fun hb48 => ?_) (fun hb48 => ?_)
    · replace hm := cond_t hm hb48
      refine CW.seq ?_
      refine CW.region ?_
      refine LW.assign wn rfl rfl ?_
      refine LW.assign wn rfl rfl ?_
      refine LW.assign wn rfl rfl ?_
      refine LW.assign wn rfl rfl ?_
      refine LW.nil ?_
      refine EW.seq_n ?_
      refine CW.ret ?_
      refine EW.seq_r ?_
      obtain rfl := Option.some.inj hm
      exact EW.rets (vs := [.slice none 0 0, .slice none 0 0, .bool false, .int .i64 1]) rfl ⟨rfl, rfl, rfl, rfl, trivial⟩ rfl ⟨none, 0, none, 0, rfl, (cx.ste t), SL.nil, SL.nil, trivial⟩
    · replace hm := cond_f hm hb48
      refine CW.skip ?_
      refine EW.seq_n ?_
      refine CW.seq ?_
      refine CW.region ?_
      refine LW.move wn rfl rfl ?_
      refine LW.len kUnd_24 wn rfl rfl ?_
      refine LW.assign wn rfl rfl ?_
      refine LW.nil ?_
      refine EW.seq_n ?_
      refine CW.seq ?_
      refine CW.seq ?_
      obtain ⟨y49, h50, hm_⟩ := bnd_some hm; clear hm
      refine CW.join_any (fun F_ w51 => ∃ (lab52 : Lab) , F_ = [(0, .slice oa1 a0.length c2), (1, .int .i64 a1), (2, .slice oa4 a2.length c5), (4, .slice oa7 a4.length c8), (5, .int .i64 a5), (9, .pointer (some ⟨g10, 0, none⟩)), (84, .bool y49)] ∧ Cx [] w lab w51 lab52 ∧ SL R_api_Partial lab52 w51 oa1 c2 a0 ∧ SL Rep.u8 lab52 w51 oa4 c5 a2 ∧ SL Rep.u8 lab52 w51 oa7 c8 a4 ∧ Box lab52 w51 19 g10 26 [.int .i64 a3.Num, .bool a3.More, .int .i64 a3.Size] ∧ True) ?_ ?_
      · have hm := h50; clear h50
        refine CW.region ?_
        refine LW.fldB 1 kFld_26_1 rfl wn rfl rfl ?_
        refine LW.loadB1 b14 kOne_4 rfl wn rfl rfl ?_
        refine LW.move wn rfl rfl ?_
        rcases Bool.eq_false_or_eq_true a3.More with hb54 | hb54
        · replace hm := cond_t hm hb54
          refine LW.move (ws 57 rfl (bk rfl hb54)) rfl rfl ?_
          refine LW.fldB 2 kFld_26_2 rfl (ws 57 rfl (bk rfl hb54)) rfl rfl ?_
          refine LW.loadB1 b14 kOne_3 rfl (ws 57 rfl (bk rfl hb54)) rfl rfl ?_
          obtain ⟨y55, h59, hm_⟩ := bnd_some hm; clear hm; have hm := hm_; clear hm_
          refine LW.call kFn_35 (c_coresecref18_length h59 cx.top) (ws 57 rfl (bk rfl hb54)) rfl rfl ?_
          rintro _ w56 ⟨rfl, e57, _⟩; refine ⟨_, rfl, ?_⟩
          replace cx := cx.step e57 rfl
          replace s3 := s3.step e57
          replace s6 := s6.step e57
          replace s9 := s9.step e57
          replace b14 := b14.step e57 rfl
          clear e57
          refine LW.neq hm (ws 57 rfl (bk rfl hb54)) rfl rfl rfl ?_; clear hm; intro x60 hm
          refine LW.pick_t wn rfl (bk rfl hb54) rfl ?_
          refine LW.move wn rfl rfl ?_
          rcases Bool.eq_false_or_eq_true x60 with hb62 | hb62
          · replace hm := cond_t hm hb62
            refine LW.skip 64 rfl (bk rfl hb62) rfl rfl ?_
            refine LW.skip 64 rfl (bk rfl hb62) rfl rfl ?_
            refine LW.skip 64 rfl (bk rfl hb62) rfl rfl ?_
            refine LW.skip 64 rfl (bk rfl hb62) rfl rfl ?_
            refine LW.skipU 68 rfl rfl rfl ?_
            refine LW.skipU 68 rfl rfl rfl ?_
            refine LW.skipU 68 rfl rfl rfl ?_
            refine LW.skipU 68 rfl rfl rfl ?_
            refine LW.skipU 68 rfl rfl rfl ?_
            refine LW.skipU 68 rfl rfl rfl ?_
            refine LW.skipU 74 rfl rfl rfl ?_
            refine LW.skipU 74 rfl rfl rfl ?_
            refine LW.skipU 74 rfl rfl rfl ?_
            refine LW.skipU 77 rfl rfl rfl ?_
            refine LW.skipU 77 rfl rfl rfl ?_
            refine LW.skipU 77 rfl rfl rfl ?_
            refine LW.skipU 74 rfl rfl rfl ?_
            refine LW.skipU 68 rfl rfl rfl ?_
            refine LW.skip 64 rfl (bk rfl hb62) rfl rfl ?_
            refine LW.pick_t wn rfl (bk rfl hb62) rfl ?_
            refine LW.nil ?_
            obtain rfl := Option.some.inj hm
            refine EW.sub (G := [(0, .slice oa1 a0.length c2), (1, .int .i64 a1), (2, .slice oa4 a2.length c5), (4, .slice oa7 a4.length c8), (5, .int .i64 a5), (9, .pointer (some ⟨g10, 0, none⟩)), (84, .bool true)]) ⟨rfl, rfl, rfl, rfl, rfl, rfl, rfl, trivial⟩ ?_
            exact EW.join_n ⟨_, rfl, cx, s3, s6, s9, b14, trivial⟩
          · replace hm := cond_f hm hb62
            refine LW.fldB 1 kFld_26_1 rfl (ws 64 rfl (bk rfl hb62)) rfl rfl ?_
            refine LW.loadB1 b14 kOne_4 rfl (ws 64 rfl (bk rfl hb62)) rfl rfl ?_
            refine LW.not hm (ws 64 rfl (bk rfl hb62)) rfl rfl ?_; clear hm; intro x63 hm
            refine LW.move (ws 64 rfl (bk rfl hb62)) rfl rfl ?_
            rcases Bool.eq_false_or_eq_true x63 with hb65 | hb65
            · replace hm := cond_t hm hb65
              refine LW.move (ws 68 rfl (bk rfl hb65)) rfl rfl ?_
              refine LW.fldB 2 kFld_26_2 rfl (ws 68 rfl (bk rfl hb65)) rfl rfl ?_
              refine LW.loadB1 b14 kOne_3 rfl (ws 68 rfl (bk rfl hb65)) rfl rfl ?_
              obtain ⟨y66, h70, hm_⟩ := bnd_some hm; clear hm; have hm := hm_; clear hm_
              refine LW.call kFn_35 (c_coresecref18_length h70 cx.top) (ws 68 rfl (bk rfl hb65)) rfl rfl ?_
              rintro _ w67 ⟨rfl, e68, _⟩; refine ⟨_, rfl, ?_⟩
              replace cx := cx.step e68 rfl
              replace s3 := s3.step e68
              replace s6 := s6.step e68
              replace s9 := s9.step e68
              replace b14 := b14.step e68 rfl
              clear e68
              refine LW.gtr hm (ws 68 rfl (bk rfl hb65)) rfl rfl rfl ?_; clear hm; intro x71 hm
              refine LW.move (ws 68 rfl (bk rfl hb65)) rfl rfl ?_
              rcases Bool.eq_false_or_eq_true x71 with hb73 | hb73
              · replace hm := cond_t hm hb73
                refine LW.skip 74 rfl (bk rfl hb73) rfl rfl ?_
                refine LW.skip 74 rfl (bk rfl hb73) rfl rfl ?_
                refine LW.skip 74 rfl (bk rfl hb73) rfl rfl ?_
                refine LW.skipU 77 rfl rfl rfl ?_
                refine LW.skipU 77 rfl rfl rfl ?_
                refine LW.skipU 77 rfl rfl rfl ?_
                refine LW.skip 74 rfl (bk rfl hb73) rfl rfl ?_
                refine LW.pick_t (ws 68 rfl (bk rfl hb65)) rfl (bk rfl hb73) rfl ?_
                refine LW.pick_t (ws 64 rfl (bk rfl hb62)) rfl (bk rfl hb65) rfl ?_
                refine LW.pick_f wn rfl (bk rfl hb62) rfl ?_
                refine LW.nil ?_
                obtain rfl := Option.some.inj hm
                refine EW.sub (G := [(0, .slice oa1 a0.length c2), (1, .int .i64 a1), (2, .slice oa4 a2.length c5), (4, .slice oa7 a4.length c8), (5, .int .i64 a5), (9, .pointer (some ⟨g10, 0, none⟩)), (84, .bool true)]) ⟨rfl, rfl, rfl, rfl, rfl, rfl, rfl, trivial⟩ ?_
                exact EW.join_n ⟨_, rfl, cx, s3, s6, s9, b14, trivial⟩
              · replace hm := cond_f hm hb73
                refine LW.move (ws 74 rfl (bk rfl hb73)) rfl rfl ?_
                refine LW.eql hm (ws 74 rfl (bk rfl hb73)) rfl rfl rfl ?_; clear hm; intro x74 hm
                refine LW.move (ws 74 rfl (bk rfl hb73)) rfl rfl ?_
                rcases Bool.eq_false_or_eq_true x74 with hb76 | hb76
                · replace hm := cond_t hm hb76
                  refine LW.fldB 0 kFld_26_0 rfl (ws 77 rfl (bk rfl hb76)) rfl rfl ?_
                  refine LW.loadB1 b14 kOne_3 rfl (ws 77 rfl (bk rfl hb76)) rfl rfl ?_
                  refine LW.gtr hm (ws 77 rfl (bk rfl hb76)) rfl rfl rfl ?_; clear hm; intro x77 hm
                  refine LW.pick_t (ws 74 rfl (bk rfl hb73)) rfl (bk rfl hb76) rfl ?_
                  refine LW.pick_f (ws 68 rfl (bk rfl hb65)) rfl (bk rfl hb73) rfl ?_
                  refine LW.pick_t (ws 64 rfl (bk rfl hb62)) rfl (bk rfl hb65) rfl ?_
                  refine LW.pick_f wn rfl (bk rfl hb62) rfl ?_
                  refine LW.nil ?_
                  obtain rfl := Option.some.inj hm
                  refine EW.sub (G := [(0, .slice oa1 a0.length c2), (1, .int .i64 a1), (2, .slice oa4 a2.length c5), (4, .slice oa7 a4.length c8), (5, .int .i64 a5), (9, .pointer (some ⟨g10, 0, none⟩)), (84, .bool x77)]) ⟨rfl, rfl, rfl, rfl, rfl, rfl, rfl, trivial⟩ ?_
                  exact EW.join_n ⟨_, rfl, cx, s3, s6, s9, b14, trivial⟩
                · replace hm := cond_f hm hb76
                  refine LW.skip 77 rfl (bk rfl hb76) rfl rfl ?_
                  refine LW.skip 77 rfl (bk rfl hb76) rfl rfl ?_
                  refine LW.skip 77 rfl (bk rfl hb76) rfl rfl ?_
                  refine LW.pick_f (ws 74 rfl (bk rfl hb73)) rfl (bk rfl hb76) rfl ?_
                  refine LW.pick_f (ws 68 rfl (bk rfl hb65)) rfl (bk rfl hb73) rfl ?_
                  refine LW.pick_t (ws 64 rfl (bk rfl hb62)) rfl (bk rfl hb65) rfl ?_
                  refine LW.pick_f wn rfl (bk rfl hb62) rfl ?_
                  refine LW.nil ?_
                  obtain rfl := Option.some.inj hm
                  refine EW.sub (G := [(0, .slice oa1 a0.length c2), (1, .int .i64 a1), (2, .slice oa4 a2.length c5), (4, .slice oa7 a4.length c8), (5, .int .i64 a5), (9, .pointer (some ⟨g10, 0, none⟩)), (84, .bool false)]) ⟨rfl, rfl, rfl, rfl, rfl, rfl, rfl, trivial⟩ ?_
                  exact EW.join_n ⟨_, rfl, cx, s3, s6, s9, b14, trivial⟩
            · replace hm := cond_f hm hb65
              refine LW.skip 68 rfl (bk rfl hb65) rfl rfl ?_
              refine LW.skip 68 rfl (bk rfl hb65) rfl rfl ?_
              refine LW.skip 68 rfl (bk rfl hb65) rfl rfl ?_
              refine LW.skip 68 rfl (bk rfl hb65) rfl rfl ?_
              refine LW.skip 68 rfl (bk rfl hb65) rfl rfl ?_
              refine LW.skip 68 rfl (bk rfl hb65) rfl rfl ?_
              refine LW.skipU 74 rfl rfl rfl ?_
              refine LW.skipU 74 rfl rfl rfl ?_
              refine LW.skipU 74 rfl rfl rfl ?_
              refine LW.skipU 77 rfl rfl rfl ?_
              refine LW.skipU 77 rfl rfl rfl ?_
              refine LW.skipU 77 rfl rfl rfl ?_
              refine LW.skipU 74 rfl rfl rfl ?_
              refine LW.skip 68 rfl (bk rfl hb65) rfl rfl ?_
              refine LW.pick_f (ws 64 rfl (bk rfl hb62)) rfl (bk rfl hb65) rfl ?_
              refine LW.pick_f wn rfl (bk rfl hb62) rfl ?_
              refine LW.nil ?_
              obtain rfl := Option.some.inj hm
              refine EW.sub (G := [(0, .slice oa1 a0.length c2), (1, .int .i64 a1), (2, .slice oa4 a2.length c5), (4, .slice oa7 a4.length c8), (5, .int .i64 a5), (9, .pointer (some ⟨g10, 0, none⟩)), (84, .bool false)]) ⟨rfl, rfl, rfl, rfl, rfl, rfl, rfl, trivial⟩ ?_
              exact EW.join_n ⟨_, rfl, cx, s3, s6, s9, b14, trivial⟩
        · replace hm := cond_f hm hb54
          refine LW.skip 57 rfl (bk rfl hb54) rfl rfl ?_
          refine LW.skip 57 rfl (bk rfl hb54) rfl rfl ?_
          refine LW.skip 57 rfl (bk rfl hb54) rfl rfl ?_
          refine LW.skip 57 rfl (bk rfl hb54) rfl rfl ?_
          refine LW.skip 57 rfl (bk rfl hb54) rfl rfl ?_
          refine LW.pick_f wn rfl (bk rfl hb54) rfl ?_
          refine LW.move wn rfl rfl ?_
          refine LW.fldB 1 kFld_26_1 rfl (ws 64 rfl rfl) rfl rfl ?_
          refine LW.loadB1 b14 kOne_4 rfl (ws 64 rfl rfl) rfl rfl ?_
          refine LW.not hm (ws 64 rfl rfl) rfl rfl ?_; clear hm; intro x78 hm
          refine LW.move (ws 64 rfl rfl) rfl rfl ?_
          rcases Bool.eq_false_or_eq_true x78 with hb80 | hb80
          · replace hm := cond_t hm hb80
            refine LW.move (ws 68 rfl (bk rfl hb80)) rfl rfl ?_
            refine LW.fldB 2 kFld_26_2 rfl (ws 68 rfl (bk rfl hb80)) rfl rfl ?_
            refine LW.loadB1 b14 kOne_3 rfl (ws 68 rfl (bk rfl hb80)) rfl rfl ?_
            obtain ⟨y81, h85, hm_⟩ := bnd_some hm; clear hm; have hm := hm_; clear hm_
            refine LW.call kFn_35 (c_coresecref18_length h85 cx.top) (ws 68 rfl (bk rfl hb80)) rfl rfl ?_
            rintro _ w82 ⟨rfl, e83, _⟩; refine ⟨_, rfl, ?_⟩
            replace cx := cx.step e83 rfl
            replace s3 := s3.step e83
            replace s6 := s6.step e83
            replace s9 := s9.step e83
            replace b14 := b14.step e83 rfl
            clear e83
            refine LW.gtr hm (ws 68 rfl (bk rfl hb80)) rfl rfl rfl ?_; clear hm; intro x86 hm
            refine LW.move (ws 68 rfl (bk rfl hb80)) rfl rfl ?_
            rcases Bool.eq_false_or_eq_true x86 with hb88 | hb88
            · replace hm := cond_t hm hb88
              refine LW.skip 74 rfl (bk rfl hb88) rfl rfl ?_
              refine LW.skip 74 rfl (bk rfl hb88) rfl rfl ?_
              refine LW.skip 74 rfl (bk rfl hb88) rfl rfl ?_
              refine LW.skipU 77 rfl rfl rfl ?_
              refine LW.skipU 77 rfl rfl rfl ?_
              refine LW.skipU 77 rfl rfl rfl ?_
              refine LW.skip 74 rfl (bk rfl hb88) rfl rfl ?_
              refine LW.pick_t (ws 68 rfl (bk rfl hb80)) rfl (bk rfl hb88) rfl ?_
              refine LW.pick_t (ws 64 rfl rfl) rfl (bk rfl hb80) rfl ?_
              refine LW.pick_f wn rfl rfl rfl ?_
              refine LW.nil ?_
              obtain rfl := Option.some.inj hm
              refine EW.sub (G := [(0, .slice oa1 a0.length c2), (1, .int .i64 a1), (2, .slice oa4 a2.length c5), (4, .slice oa7 a4.length c8), (5, .int .i64 a5), (9, .pointer (some ⟨g10, 0, none⟩)), (84, .bool true)]) ⟨rfl, rfl, rfl, rfl, rfl, rfl, rfl, trivial⟩ ?_
              exact EW.join_n ⟨_, rfl, cx, s3, s6, s9, b14, trivial⟩
            · replace hm := cond_f hm hb88
              refine LW.move (ws 74 rfl (bk rfl hb88)) rfl rfl ?_
              refine LW.eql hm (ws 74 rfl (bk rfl hb88)) rfl rfl rfl ?_; clear hm; intro x89 hm
              refine LW.move (ws 74 rfl (bk rfl hb88)) rfl rfl ?_
              rcases Bool.eq_false_or_eq_true x89 with hb91 | hb91
              · replace hm := cond_t hm hb91
                refine LW.fldB 0 kFld_26_0 rfl (ws 77 rfl (bk rfl hb91)) rfl rfl ?_
                refine LW.loadB1 b14 kOne_3 rfl (ws 77 rfl (bk rfl hb91)) rfl rfl ?_
                refine LW.gtr hm (ws 77 rfl (bk rfl hb91)) rfl rfl rfl ?_; clear hm; intro x92 hm
                refine LW.pick_t (ws 74 rfl (bk rfl hb88)) rfl (bk rfl hb91) rfl ?_
                refine LW.pick_f (ws 68 rfl (bk rfl hb80)) rfl (bk rfl hb88) rfl ?_
                refine LW.pick_t (ws 64 rfl rfl) rfl (bk rfl hb80) rfl ?_
                refine LW.pick_f wn rfl rfl rfl ?_
                refine LW.nil ?_
                obtain rfl := Option.some.inj hm
                refine EW.sub (G := [(0, .slice oa1 a0.length c2), (1, .int .i64 a1), (2, .slice oa4 a2.length c5), (4, .slice oa7 a4.length c8), (5, .int .i64 a5), (9, .pointer (some ⟨g10, 0, none⟩)), (84, .bool x92)]) ⟨rfl, rfl, rfl, rfl, rfl, rfl, rfl, trivial⟩ ?_
                exact EW.join_n ⟨_, rfl, cx, s3, s6, s9, b14, trivial⟩
              · replace hm := cond_f hm hb91
                refine LW.skip 77 rfl (bk rfl hb91) rfl rfl ?_
                refine LW.skip 77 rfl (bk rfl hb91) rfl rfl ?_
                refine LW.skip 77 rfl (bk rfl hb91) rfl rfl ?_
                refine LW.pick_f (ws 74 rfl (bk rfl hb88)) rfl (bk rfl hb91) rfl ?_
                refine LW.pick_f (ws 68 rfl (bk rfl hb80)) rfl (bk rfl hb88) rfl ?_
                refine LW.pick_t (ws 64 rfl rfl) rfl (bk rfl hb80) rfl ?_
                refine LW.pick_f wn rfl rfl rfl ?_
                refine LW.nil ?_
                obtain rfl := Option.some.inj hm
                refine EW.sub (G := [(0, .slice oa1 a0.length c2), (1, .int .i64 a1), (2, .slice oa4 a2.length c5), (4, .slice oa7 a4.length c8), (5, .int .i64 a5), (9, .pointer (some ⟨g10, 0, none⟩)), (84, .bool false)]) ⟨rfl, rfl, rfl, rfl, rfl, rfl, rfl, trivial⟩ ?_
                exact EW.join_n ⟨_, rfl, cx, s3, s6, s9, b14, trivial⟩
          · replace hm := cond_f hm hb80
            refine LW.skip 68 rfl (bk rfl hb80) rfl rfl ?_
            refine LW.skip 68 rfl (bk rfl hb80) rfl rfl ?_
            refine LW.skip 68 rfl (bk rfl hb80) rfl rfl ?_
            refine LW.skip 68 rfl (bk rfl hb80) rfl rfl ?_
            refine LW.skip 68 rfl (bk rfl hb80) rfl rfl ?_
            refine LW.skip 68 rfl (bk rfl hb80) rfl rfl ?_
            refine LW.skipU 74 rfl rfl rfl ?_
            refine LW.skipU 74 rfl rfl rfl ?_
            refine LW.skipU 74 rfl rfl rfl ?_
            refine LW.skipU 77 rfl rfl rfl ?_
            refine LW.skipU 77 rfl rfl rfl ?_
            refine LW.skipU 77 rfl rfl rfl ?_
            refine LW.skipU 74 rfl rfl rfl ?_
            refine LW.skip 68 rfl (bk rfl hb80) rfl rfl ?_
            refine LW.pick_f (ws 64 rfl rfl) rfl (bk rfl hb80) rfl ?_
            refine LW.pick_f wn rfl rfl rfl ?_
            refine LW.nil ?_
            obtain rfl := Option.some.inj hm
            refine EW.sub (G := [(0, .slice oa1 a0.length c2), (1, .int .i64 a1), (2, .slice oa4 a2.length c5), (4, .slice oa7 a4.length c8), (5, .int .i64 a5), (9, .pointer (some ⟨g10, 0, none⟩)), (84, .bool false)]) ⟨rfl, rfl, rfl, rfl, rfl, rfl, rfl, trivial⟩ ?_
            exact EW.join_n ⟨_, rfl, cx, s3, s6, s9, b14, trivial⟩
      · rintro _ w51 ⟨lab52, rfl, cx, s3, s6, s9, b14, _⟩
        have hm := hm_; clear hm_
        refine EW.seq_n ?_
        refine CW.cond (b := y49) rfl (fun hb93 => ?_) (fun hb93 => ?_)
        · replace hm := cond_t hm hb93
          refine CW.seq ?_
          refine CW.region ?_
          refine LW.assign wn rfl rfl ?_
          refine LW.assign wn rfl rfl ?_
          refine LW.assign wn rfl rfl ?_
          refine LW.assign wn rfl rfl ?_
          refine LW.nil ?_
          refine EW.seq_n ?_
          refine CW.ret ?_
          refine EW.seq_r ?_
          obtain rfl := Option.some.inj hm
          exact EW.rets (vs := [.slice none 0 0, .slice none 0 0, .bool false, .int .i64 4]) rfl ⟨rfl, rfl, rfl, rfl, trivial⟩ rfl ⟨none, 0, none, 0, rfl, (cx.ste t), SL.nil, SL.nil, trivial⟩
        · replace hm := cond_f hm hb93
          refine CW.skip ?_
          refine EW.seq_n ?_
          refine CW.seq ?_
          refine CW.region ?_
          refine LW.assign wn rfl rfl ?_
          refine LW.nil ?_
          refine EW.seq_n ?_
          refine CW.seq ?_
          refine CW.region ?_
          refine LW.assign wn rfl rfl ?_
          refine LW.nil ?_
          refine EW.seq_n ?_
          refine CW.seq ?_
          refine CW.seq ?_
          refine CW.region ?_
          refine LW.move wn rfl rfl ?_
          refine LW.len kUnd_22 wn rfl rfl ?_
          refine LW.move wn rfl rfl ?_
          refine LW.nil ?_
          refine EW.seq_n ?_
          obtain ⟨y94, h95, hm_⟩ := bnd_some hm; clear hm
          refine CW.join_any (fun F_ w99 => ∃ (lab100 : Lab) (oa96 : Option Addr) (c97 : Nat), F_ = [(1, .int .i64 a1), (2, .slice oa4 a2.length c5), (4, .slice oa7 a4.length c8), (5, .int .i64 a5), (9, .pointer (some ⟨g10, 0, none⟩)), (17, .slice oa96 y94.1.length c97), (18, .int .i64 y94.2)] ∧ Cx [] w lab w99 lab100 ∧ SL Rep.u8 lab100 w99 oa4 c5 a2 ∧ SL Rep.u8 lab100 w99 oa7 c8 a4 ∧ Box lab100 w99 19 g10 26 [.int .i64 a3.Num, .bool a3.More, .int .i64 a3.Size] ∧ Own R_api_Partial lab100 w99 27 63 oa96 c97 y94.1 ∧ True) ?_ ?_
          · have hm := h95; clear h95
            refine CW.block ?_
            refine CW.sub (G := [(1, .int .i64 a1), (2, .slice oa4 a2.length c5), (4, .slice oa7 a4.length c8), (5, .int .i64 a5), (9, .pointer (some ⟨g10, 0, none⟩)), (17, .slice none ([] : List S_api_Partial).length 0), (18, .int .i64 (-1)), (85, .slice oa1 a0.length c2), (86, .int .i64 (a0.length : Int)), (87, .int .i64 0)]) ⟨rfl, rfl, rfl, rfl, rfl, rfl, rfl, rfl, rfl, rfl, trivial⟩ ?_
            refine CW.loop (fun n108 F_ w106 => ∃ (lab107 : Lab) (k109 : Nat) (rem110 : List S_api_Partial) (x101 : List S_api_Partial) (x102 : Int) (oa103 : Option Addr) (c104 : Nat), n108 = rem110.length ∧ a0.drop k109 = rem110 ∧ F_ = [(1, .int .i64 a1), (2, .slice oa4 a2.length c5), (4, .slice oa7 a4.length c8), (5, .int .i64 a5), (9, .pointer (some ⟨g10, 0, none⟩)), (17, .slice oa103 x101.length c104), (18, .int .i64 x102), (85, .slice oa1 a0.length c2), (86, .int .i64 (a0.length : Int)), (87, .int .i64 ((k109 : Nat) : Int))] ∧ Cx [] w lab w106 lab107 ∧ SL Rep.u8 lab107 w106 oa4 c5 a2 ∧ SL Rep.u8 lab107 w106 oa7 c8 a4 ∧ Box lab107 w106 19 g10 26 [.int .i64 a3.Num, .bool a3.More, .int .i64 a3.Size] ∧ Own R_api_Partial lab107 w106 27 63 oa103 c104 x101 ∧ SL R_api_Partial lab107 w106 oa1 c2 a0 ∧ m_coresecref18_Put_l1 a1 a2 a3 a5 rem110 k109 x101 x102 = some y94) _ ⟨_, 0, a0, _, _, none, 0, rfl, rfl, rfl, cx, s6, s9, b14, Own.nil, s3, hm⟩ ?_
            rintro n108 _ w106 ⟨lab107, k109, rem110, x101, x102, oa103, c104, rfl, hd, rfl, cx, s6, s9, b14, o105, s3, hm⟩
            rcases rem110 with _ | ⟨x111, rem110⟩
            · rw [m_coresecref18_Put_l1] at hm; have hlt := drop_nil hd
              refine CW.seq ?_
              refine CW.region ?_
              refine LW.lss_lit hlt wn rfl rfl rfl ?_
              refine LW.nil ?_
              refine EW.seq_n ?_
              refine CW.seq ?_
              refine CW.cond_f rfl ?_
              refine CW.exit ?_
              refine EW.seq_x ?_
              refine EW.join_x ?_
              refine EW.block_x ?_
              obtain rfl := Option.some.inj hm
              refine EW.sub (G := [(1, .int .i64 a1), (2, .slice oa4 a2.length c5), (4, .slice oa7 a4.length c8), (5, .int .i64 a5), (9, .pointer (some ⟨g10, 0, none⟩)), (17, .slice oa103 x101.length c104), (18, .int .i64 x102)]) ⟨rfl, rfl, rfl, rfl, rfl, rfl, rfl, trivial⟩ ?_
              exact EW.join_n ⟨_, oa103, c104, rfl, cx, s6, s9, b14, o105, trivial⟩
            · rw [m_coresecref18_Put_l1] at hm; obtain ⟨hlt, hix, hd, hlt2⟩ := drop_cons hd
              refine CW.seq ?_
              refine CW.region ?_
              refine LW.lss_lit hlt wn rfl rfl rfl ?_
              refine LW.nil ?_
              refine EW.seq_n ?_
              refine CW.seq ?_
              refine CW.cond_t rfl ?_
              refine CW.skip ?_
              refine EW.seq_n ?_
              refine CW.seq ?_
              refine CW.block ?_
              refine CW.seq ?_
              refine CW.region ?_
              refine LW.index (bnd_ret hix) s3 kSl_22 wn rfl rfl rfl ?_; intro x_ p112 cs113 hx_ hr114 ha115; cases hx_
              obtain ⟨oa116, c117, oa119, c120, rfl, s118, s121, _⟩ := hr114
              refine LW.loadAn ha115 kAgg_63 rfl wn rfl rfl ?_
              refine LW.alloc 30 [.int .i64 0, .slice none 0 0, .slice none 0 0, .int .i64 0] kZero_63 rfl cx.top wn rfl ?_
              intro g122 lab123 w124 e125 b126
              replace cx := cx.step e125 rfl
              replace s6 := s6.step e125
              replace s9 := s9.step e125
              replace b14 := b14.step e125 rfl
              replace o105 := o105.step e125 rfl
              replace s3 := s3.step e125
              replace ha115 := ha115.step e125
              replace s118 := s118.step e125
              replace s121 := s121.step e125
              clear e125
              refine LW.storeBn [.int .i64 x111.Peer, .slice oa116 x111.Key.length c117, .slice oa119 x111.Data.length c120, .int .i64 x111.Until] [.int .i64 x111.Peer, .slice oa116 x111.Key.length c117, .slice oa119 x111.Data.length c120, .int .i64 x111.Until] b126 cx.top rfl kAgg_63 rfl rfl rfl rfl wn rfl rfl ?_
              intro w127 e128 b129; clear b126
              replace cx := cx.step e128 rfl
              replace s6 := s6.step e128
              replace s9 := s9.step e128
              replace b14 := b14.step e128 rfl
              replace o105 := o105.step e128 rfl
              replace s118 := s118.step e128
              replace s121 := s121.step e128
              replace s3 := s3.step e128
              replace ha115 := ha115.step e128
              clear e128
              refine LW.nil ?_
              refine EW.seq_n ?_
              refine CW.seq ?_
              obtain ⟨y130, h131, hm_⟩ := bnd_some hm; clear hm
              refine CW.join_any (fun F_ w132 => ∃ (lab133 : Lab) , F_ = [(1, .int .i64 a1), (2, .slice oa4 a2.length c5), (4, .slice oa7 a4.length c8), (5, .int .i64 a5), (9, .pointer (some ⟨g10, 0, none⟩)), (17, .slice oa103 x101.length c104), (18, .int .i64 x102), (20, .pointer (some ⟨g122, 0, none⟩)), (21, .bool y130), (85, .slice oa1 a0.length c2), (86, .int .i64 (a0.length : Int)), (87, .int .i64 ((k109 : Nat) : Int))] ∧ Cx [] w lab w132 lab133 ∧ SL Rep.u8 lab133 w132 oa4 c5 a2 ∧ SL Rep.u8 lab133 w132 oa7 c8 a4 ∧ Box lab133 w132 19 g10 26 [.int .i64 a3.Num, .bool a3.More, .int .i64 a3.Size] ∧ Own R_api_Partial lab133 w132 27 63 oa103 c104 x101 ∧ Box lab133 w132 30 g122 63 [.int .i64 x111.Peer, .slice oa116 x111.Key.length c117, .slice oa119 x111.Data.length c120, .int .i64 x111.Until] ∧ SL Rep.u8 lab133 w132 oa116 c117 x111.Key ∧ SL Rep.u8 lab133 w132 oa119 c120 x111.Data ∧ SL R_api_Partial lab133 w132 oa1 c2 a0 ∧ True) ?_ ?_
              · have hm := h131; clear h131
                refine CW.region ?_
                refine LW.fldB 0 kFld_63_0 rfl wn rfl rfl ?_
                refine LW.loadB1 b129 kOne_3 rfl wn rfl rfl ?_
                refine LW.move wn rfl rfl ?_
                refine LW.eql hm wn rfl rfl rfl ?_; clear hm; intro x134 hm
                refine LW.move wn rfl rfl ?_
                rcases Bool.eq_false_or_eq_true x134 with hb136 | hb136
                · replace hm := cond_t hm hb136
                  refine LW.fldB 1 kFld_63_1 rfl (ws 95 rfl (bk rfl hb136)) rfl rfl ?_
                  refine LW.loadB1 b129 kOne_24 rfl (ws 95 rfl (bk rfl hb136)) rfl rfl ?_
                  refine LW.b2s (xs := x111.Key) s118 kUnd_24 kUnd_5 kUnd_9 (ws 95 rfl (bk rfl hb136)) rfl rfl ?_
                  refine LW.move (ws 95 rfl (bk rfl hb136)) rfl rfl ?_
                  refine LW.b2s (xs := a2) s6 kUnd_24 kUnd_5 kUnd_9 (ws 95 rfl (bk rfl hb136)) rfl rfl ?_
                  refine LW.eqs hm (ws 95 rfl (bk rfl hb136)) rfl rfl rfl ?_; clear hm; intro x137 hm
                  refine LW.pick_t wn rfl (bk rfl hb136) rfl ?_
                  refine LW.assign wn rfl rfl ?_
                  refine LW.nil ?_
                  obtain rfl := Option.some.inj hm
                  refine EW.sub (G := [(1, .int .i64 a1), (2, .slice oa4 a2.length c5), (4, .slice oa7 a4.length c8), (5, .int .i64 a5), (9, .pointer (some ⟨g10, 0, none⟩)), (17, .slice oa103 x101.length c104), (18, .int .i64 x102), (20, .pointer (some ⟨g122, 0, none⟩)), (21, .bool x137), (85, .slice oa1 a0.length c2), (86, .int .i64 (a0.length : Int)), (87, .int .i64 ((k109 : Nat) : Int))]) ⟨rfl, rfl, rfl, rfl, rfl, rfl, rfl, rfl, rfl, rfl, rfl, rfl, trivial⟩ ?_
                  exact EW.join_n ⟨_, rfl, cx, s6, s9, b14, o105, b129, s118, s121, s3, trivial⟩
                · replace hm := cond_f hm hb136
                  refine LW.skip 95 rfl (bk rfl hb136) rfl rfl ?_
                  refine LW.skip 95 rfl (bk rfl hb136) rfl rfl ?_
                  refine LW.skip 95 rfl (bk rfl hb136) rfl rfl ?_
                  refine LW.skip 95 rfl (bk rfl hb136) rfl rfl ?_
                  refine LW.skip 95 rfl (bk rfl hb136) rfl rfl ?_
                  refine LW.skip 95 rfl (bk rfl hb136) rfl rfl ?_
                  refine LW.pick_f wn rfl (bk rfl hb136) rfl ?_
                  refine LW.assign wn rfl rfl ?_
                  refine LW.nil ?_
                  obtain rfl := Option.some.inj hm
                  refine EW.sub (G := [(1, .int .i64 a1), (2, .slice oa4 a2.length c5), (4, .slice oa7 a4.length c8), (5, .int .i64 a5), (9, .pointer (some ⟨g10, 0, none⟩)), (17, .slice oa103 x101.length c104), (18, .int .i64 x102), (20, .pointer (some ⟨g122, 0, none⟩)), (21, .bool false), (85, .slice oa1 a0.length c2), (86, .int .i64 (a0.length : Int)), (87, .int .i64 ((k109 : Nat) : Int))]) ⟨rfl, rfl, rfl, rfl, rfl, rfl, rfl, rfl, rfl, rfl, rfl, rfl, trivial⟩ ?_
                  exact EW.join_n ⟨_, rfl, cx, s6, s9, b14, o105, b129, s118, s121, s3, trivial⟩
              · rintro _ w132 ⟨lab133, rfl, cx, s6, s9, b14, o105, b129, s118, s121, s3, _⟩
                have hm := hm_; clear hm_
                refine EW.seq_n ?_
                refine CW.seq ?_
                refine CW.seq ?_
                obtain ⟨y138, h139, hm_⟩ := bnd_some hm; clear hm
                refine CW.join_any (fun F_ w140 => ∃ (lab141 : Lab) , F_ = [(1, .int .i64 a1), (2, .slice oa4 a2.length c5), (4, .slice oa7 a4.length c8), (5, .int .i64 a5), (9, .pointer (some ⟨g10, 0, none⟩)), (17, .slice oa103 x101.length c104), (18, .int .i64 x102), (20, .pointer (some ⟨g122, 0, none⟩)), (21, .bool y130), (85, .slice oa1 a0.length c2), (86, .int .i64 (a0.length : Int)), (87, .int .i64 ((k109 : Nat) : Int)), (114, .bool y138)] ∧ Cx [] w lab w140 lab141 ∧ SL Rep.u8 lab141 w140 oa4 c5 a2 ∧ SL Rep.u8 lab141 w140 oa7 c8 a4 ∧ Box lab141 w140 19 g10 26 [.int .i64 a3.Num, .bool a3.More, .int .i64 a3.Size] ∧ Own R_api_Partial lab141 w140 27 63 oa103 c104 x101 ∧ Box lab141 w140 30 g122 63 [.int .i64 x111.Peer, .slice oa116 x111.Key.length c117, .slice oa119 x111.Data.length c120, .int .i64 x111.Until] ∧ SL Rep.u8 lab141 w140 oa116 c117 x111.Key ∧ SL Rep.u8 lab141 w140 oa119 c120 x111.Data ∧ SL R_api_Partial lab141 w140 oa1 c2 a0 ∧ True) ?_ ?_
                · have hm := h139; clear h139
                  refine CW.region ?_
                  refine LW.fldB 3 kFld_63_3 rfl wn rfl rfl ?_
                  refine LW.loadB1 b129 kOne_3 rfl wn rfl rfl ?_
                  refine LW.move wn rfl rfl ?_
                  refine LW.leq hm wn rfl rfl rfl ?_; clear hm; intro x142 hm
                  refine LW.move wn rfl rfl ?_
                  rcases Bool.eq_false_or_eq_true x142 with hb144 | hb144
                  · replace hm := cond_t hm hb144
                    refine LW.skip 107 rfl (bk rfl hb144) rfl rfl ?_
                    refine LW.skip 107 rfl (bk rfl hb144) rfl rfl ?_
                    refine LW.skipU 109 rfl rfl rfl ?_
                    refine LW.skipU 109 rfl rfl rfl ?_
                    refine LW.skipU 109 rfl rfl rfl ?_
                    refine LW.skip 107 rfl (bk rfl hb144) rfl rfl ?_
                    refine LW.pick_t wn rfl (bk rfl hb144) rfl ?_
                    refine LW.nil ?_
                    obtain rfl := Option.some.inj hm
                    refine EW.sub (G := [(1, .int .i64 a1), (2, .slice oa4 a2.length c5), (4, .slice oa7 a4.length c8), (5, .int .i64 a5), (9, .pointer (some ⟨g10, 0, none⟩)), (17, .slice oa103 x101.length c104), (18, .int .i64 x102), (20, .pointer (some ⟨g122, 0, none⟩)), (21, .bool y130), (85, .slice oa1 a0.length c2), (86, .int .i64 (a0.length : Int)), (87, .int .i64 ((k109 : Nat) : Int)), (114, .bool true)]) ⟨rfl, rfl, rfl, rfl, rfl, rfl, rfl, rfl, rfl, rfl, rfl, rfl, rfl, trivial⟩ ?_
                    exact EW.join_n ⟨_, rfl, cx, s6, s9, b14, o105, b129, s118, s121, s3, trivial⟩
                  · replace hm := cond_f hm hb144
                    refine LW.move (ws 107 rfl (bk rfl hb144)) rfl rfl ?_
                    refine LW.move (ws 107 rfl (bk rfl hb144)) rfl rfl ?_
                    rcases Bool.eq_false_or_eq_true y130 with hb146 | hb146
                    · replace hm := cond_t hm hb146
                      refine LW.fldB 0 kFld_26_0 rfl (ws 109 rfl (bk rfl hb146)) rfl rfl ?_
                      refine LW.loadB1 b14 kOne_3 rfl (ws 109 rfl (bk rfl hb146)) rfl rfl ?_
                      refine LW.eql hm (ws 109 rfl (bk rfl hb146)) rfl rfl rfl ?_; clear hm; intro x147 hm
                      refine LW.pick_t (ws 107 rfl (bk rfl hb144)) rfl (bk rfl hb146) rfl ?_
                      refine LW.pick_f wn rfl (bk rfl hb144) rfl ?_
                      refine LW.nil ?_
                      obtain rfl := Option.some.inj hm
                      refine EW.sub (G := [(1, .int .i64 a1), (2, .slice oa4 a2.length c5), (4, .slice oa7 a4.length c8), (5, .int .i64 a5), (9, .pointer (some ⟨g10, 0, none⟩)), (17, .slice oa103 x101.length c104), (18, .int .i64 x102), (20, .pointer (some ⟨g122, 0, none⟩)), (21, .bool y130), (85, .slice oa1 a0.length c2), (86, .int .i64 (a0.length : Int)), (87, .int .i64 ((k109 : Nat) : Int)), (114, .bool x147)]) ⟨rfl, rfl, rfl, rfl, rfl, rfl, rfl, rfl, rfl, rfl, rfl, rfl, rfl, trivial⟩ ?_
                      exact EW.join_n ⟨_, rfl, cx, s6, s9, b14, o105, b129, s118, s121, s3, trivial⟩
                    · replace hm := cond_f hm hb146
                      refine LW.skip 109 rfl (bk rfl hb146) rfl rfl ?_
                      refine LW.skip 109 rfl (bk rfl hb146) rfl rfl ?_
                      refine LW.skip 109 rfl (bk rfl hb146) rfl rfl ?_
                      refine LW.pick_f (ws 107 rfl (bk rfl hb144)) rfl (bk rfl hb146) rfl ?_
                      refine LW.pick_f wn rfl (bk rfl hb144) rfl ?_
                      refine LW.nil ?_
                      obtain rfl := Option.some.inj hm
                      refine EW.sub (G := [(1, .int .i64 a1), (2, .slice oa4 a2.length c5), (4, .slice oa7 a4.length c8), (5, .int .i64 a5), (9, .pointer (some ⟨g10, 0, none⟩)), (17, .slice oa103 x101.length c104), (18, .int .i64 x102), (20, .pointer (some ⟨g122, 0, none⟩)), (21, .bool y130), (85, .slice oa1 a0.length c2), (86, .int .i64 (a0.length : Int)), (87, .int .i64 ((k109 : Nat) : Int)), (114, .bool false)]) ⟨rfl, rfl, rfl, rfl, rfl, rfl, rfl, rfl, rfl, rfl, rfl, rfl, rfl, trivial⟩ ?_
                      exact EW.join_n ⟨_, rfl, cx, s6, s9, b14, o105, b129, s118, s121, s3, trivial⟩
                · rintro _ w140 ⟨lab141, rfl, cx, s6, s9, b14, o105, b129, s118, s121, s3, _⟩
                  have hm := hm_; clear hm_
                  refine EW.seq_n ?_
                  refine CW.cond (b := y138) rfl (fun hb148 => ?_) (fun hb148 => ?_)
                  · replace hm := cond_t hm hb148
                    refine CW.exit ?_
                    refine EW.seq_x ?_
                    refine EW.block_x ?_
                    refine EW.seq_n ?_
                    refine CW.region ?_
                    refine LW.add_lit (w64_succ hlt2 s3.le) wn rfl rfl rfl ?_
                    refine LW.move wn rfl rfl ?_
                    refine LW.nil ?_
                    refine EW.sub (G := [(1, .int .i64 a1), (2, .slice oa4 a2.length c5), (4, .slice oa7 a4.length c8), (5, .int .i64 a5), (9, .pointer (some ⟨g10, 0, none⟩)), (17, .slice oa103 x101.length c104), (18, .int .i64 x102), (85, .slice oa1 a0.length c2), (86, .int .i64 (a0.length : Int)), (87, .int .i64 ((k109 + 1 : Nat) : Int))]) ⟨rfl, rfl, rfl, rfl, rfl, rfl, rfl, rfl, rfl, rfl, trivial⟩ ?_
                    exact EW.join_n ⟨_, Nat.lt_succ_self _, _, k109 + 1, rem110, _, _, oa103, c104, rfl, hd, rfl, cx, s6, s9, b14, o105, s3, hm⟩
                  · replace hm := cond_f hm hb148
                    refine CW.skip ?_
                    refine EW.seq_n ?_
                    refine CW.seq ?_
                    refine CW.seq ?_
                    refine CW.region ?_
                    refine LW.move wn rfl rfl ?_
                    refine LW.nil ?_
                    refine EW.seq_n ?_
                    obtain ⟨y149, h150, hm_⟩ := bnd_some hm; clear hm
                    refine CW.join_any (fun F_ w151 => ∃ (lab152 : Lab) , F_ = [(1, .int .i64 a1), (2, .slice oa4 a2.length c5), (4, .slice oa7 a4.length c8), (5, .int .i64 a5), (9, .pointer (some ⟨g10, 0, none⟩)), (17, .slice oa103 x101.length c104), (18, .int .i64 y149), (20, .pointer (some ⟨g122, 0, none⟩)), (85, .slice oa1 a0.length c2), (86, .int .i64 (a0.length : Int)), (87, .int .i64 ((k109 : Nat) : Int))] ∧ Cx [] w lab w151 lab152 ∧ SL Rep.u8 lab152 w151 oa4 c5 a2 ∧ SL Rep.u8 lab152 w151 oa7 c8 a4 ∧ Box lab152 w151 19 g10 26 [.int .i64 a3.Num, .bool a3.More, .int .i64 a3.Size] ∧ Own R_api_Partial lab152 w151 27 63 oa103 c104 x101 ∧ Box lab152 w151 30 g122 63 [.int .i64 x111.Peer, .slice oa116 x111.Key.length c117, .slice oa119 x111.Data.length c120, .int .i64 x111.Until] ∧ SL Rep.u8 lab152 w151 oa116 c117 x111.Key ∧ SL Rep.u8 lab152 w151 oa119 c120 x111.Data ∧ SL R_api_Partial lab152 w151 oa1 c2 a0 ∧ True) ?_ ?_
                    · have hm := h150; clear h150
                      refine CW.cond (b := y130) rfl (fun hb153 => ?_) (fun hb153 => ?_)
                      · replace hm := cond_t hm hb153
                        refine CW.region ?_
                        refine LW.move wn rfl rfl ?_
                        refine LW.len kUnd_22 wn rfl rfl ?_
                        refine LW.assign wn rfl rfl ?_
                        refine LW.nil ?_
                        obtain rfl := Option.some.inj hm
                        refine EW.sub (G := [(1, .int .i64 a1), (2, .slice oa4 a2.length c5), (4, .slice oa7 a4.length c8), (5, .int .i64 a5), (9, .pointer (some ⟨g10, 0, none⟩)), (17, .slice oa103 x101.length c104), (18, .int .i64 (x101.length : Int)), (20, .pointer (some ⟨g122, 0, none⟩)), (85, .slice oa1 a0.length c2), (86, .int .i64 (a0.length : Int)), (87, .int .i64 ((k109 : Nat) : Int))]) ⟨rfl, rfl, rfl, rfl, rfl, rfl, rfl, rfl, rfl, rfl, rfl, trivial⟩ ?_
                        exact EW.join_n ⟨_, rfl, cx, s6, s9, b14, o105, b129, s118, s121, s3, trivial⟩
                      · replace hm := cond_f hm hb153
                        refine CW.skip ?_
                        obtain rfl := Option.some.inj hm
                        refine EW.sub (G := [(1, .int .i64 a1), (2, .slice oa4 a2.length c5), (4, .slice oa7 a4.length c8), (5, .int .i64 a5), (9, .pointer (some ⟨g10, 0, none⟩)), (17, .slice oa103 x101.length c104), (18, .int .i64 x102), (20, .pointer (some ⟨g122, 0, none⟩)), (85, .slice oa1 a0.length c2), (86, .int .i64 (a0.length : Int)), (87, .int .i64 ((k109 : Nat) : Int))]) ⟨rfl, rfl, rfl, rfl, rfl, rfl, rfl, rfl, rfl, rfl, rfl, trivial⟩ ?_
                        exact EW.join_n ⟨_, rfl, cx, s6, s9, b14, o105, b129, s118, s121, s3, trivial⟩
                    · rintro _ w151 ⟨lab152, rfl, cx, s6, s9, b14, o105, b129, s118, s121, s3, _⟩
                      have hm := hm_; clear hm_
                      refine EW.seq_n ?_
                      obtain ⟨x157, hx_x157, hm_⟩ := bnd_some hm; clear hm; have hm := hm_; clear hm_
                      obtain ⟨x166, hx_x166, hm_⟩ := bnd_some hm; clear hm; have hm := hm_; clear hm_
                      obtain ⟨x202, hx_x202, hm_⟩ := bnd_some hm; clear hm; have hm := hm_; clear hm_
                      refine CW.sub (G := [(1, .int .i64 a1), (2, .slice oa4 a2.length c5), (4, .slice oa7 a4.length c8), (5, .int .i64 a5), (9, .pointer (some ⟨g10, 0, none⟩)), (17, .slice oa103 x101.length c104), (18, .int .i64 y149), (20, .pointer (some ⟨g122, 0, none⟩)), (85, .slice oa1 a0.length c2), (86, .int .i64 (a0.length : Int)), (87, .int .i64 ((k109 : Nat) : Int))]) ⟨rfl, rfl, rfl, rfl, rfl, rfl, rfl, rfl, rfl, rfl, rfl, trivial⟩ ?_
                      refine CW.drawL (fun i_ => if i_ = 13 then [27] else []) (fun i_ => by (try dsimp only); (repeat' split) <;> rfl) kMix_ 14 (by kernel_rfl) cx.top ?_
                      intro w209 e210
                      replace cx := cx.step e210 rfl
                      replace s6 := s6.step e210
                      replace s9 := s9.step e210
                      replace b14 := b14.step e210 rfl
                      replace o105 := o105.step e210 rfl
                      replace b129 := b129.step e210 rfl
                      replace s118 := s118.step e210
                      replace s121 := s121.step e210
                      replace s3 := s3.step e210
                      clear e210
                      refine ⟨[(fun L_ lab_ w_ v_ => v_ = .slice oa103 x101.length c104 ∧ True),
    (fun L_ lab_ w_ v_ => v_ = .pointer (some ⟨g122, 0, none⟩) ∧ True),
    (fun L_ lab_ w_ v_ => v_ = .int .i64 x111.Peer ∧ True),
    (fun L_ lab_ w_ v_ => v_ = .pointer (some ⟨g122, 1, none⟩) ∧ True),
    (fun L_ lab_ w_ v_ => v_ = .slice oa116 x111.Key.length c117 ∧ True),
    (fun L_ lab_ w_ v_ => ∃ (oa158 : Option Addr) (c159 : Nat), v_ = .slice oa158 x157.length c159 ∧ SL Rep.u8 lab_ w_ oa158 c159 x157 ∧ True),
    (fun L_ lab_ w_ v_ => v_ = .pointer (some ⟨g122, 2, none⟩) ∧ True),
    (fun L_ lab_ w_ v_ => v_ = .slice oa119 x111.Data.length c120 ∧ True),
    (fun L_ lab_ w_ v_ => ∃ (oa167 : Option Addr) (c168 : Nat), v_ = .slice oa167 x166.length c168 ∧ SL Rep.u8 lab_ w_ oa167 c168 x166 ∧ True),
    (fun L_ lab_ w_ v_ => v_ = .pointer (some ⟨g122, 3, none⟩) ∧ True),
    (fun L_ lab_ w_ v_ => v_ = .int .i64 x111.Until ∧ True),
    (fun L_ lab_ w_ v_ => ∃ (oa175 : Option Addr) (c176 : Nat) (oa179 : Option Addr) (c180 : Nat), v_ = .agg ([.int .i64 x111.Peer, .slice oa175 x157.length c176, .slice oa179 x166.length c180, .int .i64 x111.Until] : List Value).toArray ∧ SL Rep.u8 lab_ w_ oa175 c176 x157 ∧ SL Rep.u8 lab_ w_ oa179 c180 x166 ∧ True),
    (fun L_ lab_ w_ v_ => ∃ (oa191 : Option Addr) (c192 : Nat), v_ = .slice oa191 ([(S_api_Partial.mk x111.Peer x157 x166 x111.Until)]).length c192 ∧ SL R_api_Partial lab_ w_ oa191 c192 ([(S_api_Partial.mk x111.Peer x157 x166 x111.Until)]) ∧ True),
    (fun L_ lab_ w_ v_ => ∃ (oa203 : Option Addr) (c204 : Nat), v_ = .slice oa203 x202.length c204 ∧ Own R_api_Partial lab_ w_ 27 63 oa203 c204 x202 ∧ True)], (fun L_ lab_ w_ => Cx [] w lab w_ lab_ ∧ SL Rep.u8 lab_ w_ oa4 c5 a2 ∧ SL Rep.u8 lab_ w_ oa7 c8 a4 ∧ Box lab_ w_ 19 g10 26 [.int .i64 a3.Num, .bool a3.More, .int .i64 a3.Size] ∧ (L_ 13 = true ∨ Own R_api_Partial lab_ w_ 27 63 oa103 c104 x101) ∧ Box lab_ w_ 30 g122 63 [.int .i64 x111.Peer, .slice oa116 x111.Key.length c117, .slice oa119 x111.Data.length c120, .int .i64 x111.Until] ∧ SL Rep.u8 lab_ w_ oa116 c117 x111.Key ∧ SL Rep.u8 lab_ w_ oa119 c120 x111.Data ∧ SL R_api_Partial lab_ w_ oa1 c2 a0 ∧ True), ?_, ⟨cx, s6, s9, b14, .inr o105, b129, s118, s121, s3, trivial⟩, ?_, ?_⟩
                      · exact ⟨by rintro i_ L_ lab_ w_ lab2_ w2_ v_ hne_ hd_ hk_ hp_ ⟨hv_, _⟩; exact ⟨hv_, trivial⟩, by rintro i_ L_ lab_ w_ lab2_ w2_ v_ hne_ hd_ hk_ hp_ ⟨hv_, _⟩; exact ⟨hv_, trivial⟩, by rintro i_ L_ lab_ w_ lab2_ w2_ v_ hne_ hd_ hk_ hp_ ⟨hv_, _⟩; exact ⟨hv_, trivial⟩, by rintro i_ L_ lab_ w_ lab2_ w2_ v_ hne_ hd_ hk_ hp_ ⟨hv_, _⟩; exact ⟨hv_, trivial⟩, by rintro i_ L_ lab_ w_ lab2_ w2_ v_ hne_ hd_ hk_ hp_ ⟨hv_, _⟩; exact ⟨hv_, trivial⟩, by rintro i_ L_ lab_ w_ lab2_ w2_ v_ hne_ hd_ hk_ hp_ ⟨oa158, c159, hv_, o163, _⟩; exact ⟨oa158, c159, hv_, (o163.keep hp_), trivial⟩, by rintro i_ L_ lab_ w_ lab2_ w2_ v_ hne_ hd_ hk_ hp_ ⟨hv_, _⟩; exact ⟨hv_, trivial⟩, by rintro i_ L_ lab_ w_ lab2_ w2_ v_ hne_ hd_ hk_ hp_ ⟨hv_, _⟩; exact ⟨hv_, trivial⟩, by rintro i_ L_ lab_ w_ lab2_ w2_ v_ hne_ hd_ hk_ hp_ ⟨oa167, c168, hv_, o172, _⟩; exact ⟨oa167, c168, hv_, (o172.keep hp_), trivial⟩, by rintro i_ L_ lab_ w_ lab2_ w2_ v_ hne_ hd_ hk_ hp_ ⟨hv_, _⟩; exact ⟨hv_, trivial⟩, by rintro i_ L_ lab_ w_ lab2_ w2_ v_ hne_ hd_ hk_ hp_ ⟨hv_, _⟩; exact ⟨hv_, trivial⟩, by rintro i_ L_ lab_ w_ lab2_ w2_ v_ hne_ hd_ hk_ hp_ ⟨oa175, c176, oa179, c180, hv_, s177, s181, _⟩; exact ⟨oa175, c176, oa179, c180, hv_, (s177.keep hp_), (s181.keep hp_), trivial⟩, by rintro i_ L_ lab_ w_ lab2_ w2_ v_ hne_ hd_ hk_ hp_ ⟨oa191, c192, hv_, s194, _⟩; exact ⟨oa191, c192, hv_, (s194.keep hp_), trivial⟩, by rintro i_ L_ lab_ w_ lab2_ w2_ v_ hne_ hd_ hk_ hp_ ⟨oa203, c204, hv_, o208, _⟩; exact ⟨oa203, c204, hv_, (o208.ke hk_ (by (try dsimp only); (repeat' split) <;> first | rfl | contradiction) (by (try dsimp only); (repeat' split) <;> first | rfl | contradiction)), trivial⟩, trivial⟩
                      · refine (ob_succ (ob_succ (ob_succ (ob_succ (ob_succ (ob_succ (ob_succ (ob_succ (ob_succ (ob_succ (ob_succ (ob_succ (ob_succ (ob_succ ob_nil ?_) ?_) ?_) ?_) ?_) ?_) ?_) ?_) ?_) ?_) ?_) ?_) ?_) ?_)
                        · exact ob_moveb (v := .slice oa103 x101.length c104) rfl (fun _ h_ => h_ _ _ rfl) rfl (fun _ _ _ => ⟨rfl, trivial⟩) (fun _ _ _ h_ => h_)
                        · intro o_ L_ F_ lab_ w_ ho_ hL_ hw_ hcl_ hb_ hr_ hq_; obtain rfl := Option.some.inj (ho_ : some _ = some o_); obtain ⟨cx, s6, s9, b14, o105, b129, s118, s121, s3, _⟩ := hq_
                          have hl20 := hb_ 20 _ rfl
                          refine LW.fldB 0 kFld_63_0 rfl wn rfl hl20 ?_
                          refine LW.nil ?_; intro a_ ha_
                          exact ⟨rfl, _, _, ha_, ⟨rfl, trivial⟩, Ke.refl, cx, s6, s9, b14, (o105), b129, s118, s121, s3, trivial⟩
                        · intro o_ L_ F_ lab_ w_ ho_ hL_ hw_ hcl_ hb_ hr_ hq_; obtain rfl := Option.some.inj (ho_ : some _ = some o_); obtain ⟨cx, s6, s9, b14, o105, b129, s118, s121, s3, _⟩ := hq_
                          obtain ⟨q154, hl119, rfl, _⟩ := hr_ 1 (by decide) (hw_ 1 (by kernel_rfl))
                          replace hl119 : Gk.look F_ 119 = some (.pointer (some ⟨g122, 0, none⟩)) := hl119
                          refine LW.loadB1 b129 kOne_3 rfl wn rfl hl119 ?_
                          refine LW.nil ?_; intro a_ ha_
                          exact ⟨rfl, _, _, ha_, ⟨rfl, trivial⟩, Ke.refl, cx, s6, s9, b14, (o105), b129, s118, s121, s3, trivial⟩
                        · intro o_ L_ F_ lab_ w_ ho_ hL_ hw_ hcl_ hb_ hr_ hq_; obtain rfl := Option.some.inj (ho_ : some _ = some o_); obtain ⟨cx, s6, s9, b14, o105, b129, s118, s121, s3, _⟩ := hq_
                          have hl20 := hb_ 20 _ rfl
                          refine LW.fldB 1 kFld_63_1 rfl wn rfl hl20 ?_
                          refine LW.nil ?_; intro a_ ha_
                          exact ⟨rfl, _, _, ha_, ⟨rfl, trivial⟩, Ke.refl, cx, s6, s9, b14, (o105), b129, s118, s121, s3, trivial⟩
                        · intro o_ L_ F_ lab_ w_ ho_ hL_ hw_ hcl_ hb_ hr_ hq_; obtain rfl := Option.some.inj (ho_ : some _ = some o_); obtain ⟨cx, s6, s9, b14, o105, b129, s118, s121, s3, _⟩ := hq_
                          obtain ⟨q155, hl121, rfl, _⟩ := hr_ 3 (by decide) (hw_ 3 (by kernel_rfl))
                          replace hl121 : Gk.look F_ 121 = some (.pointer (some ⟨g122, 1, none⟩)) := hl121
                          refine LW.loadB1 b129 kOne_24 rfl wn rfl hl121 ?_
                          refine LW.nil ?_; intro a_ ha_
                          exact ⟨rfl, _, _, ha_, ⟨rfl, trivial⟩, Ke.refl, cx, s6, s9, b14, (o105), b129, s118, s121, s3, trivial⟩
                        · intro o_ L_ F_ lab_ w_ ho_ hL_ hw_ hcl_ hb_ hr_ hq_; obtain rfl := Option.some.inj (ho_ : some _ = some o_); obtain ⟨cx, s6, s9, b14, o105, b129, s118, s121, s3, _⟩ := hq_
                          obtain ⟨q156, hl122, rfl, _⟩ := hr_ 4 (by decide) (hw_ 4 (by kernel_rfl))
                          replace hl122 : Gk.look F_ 122 = some (.slice oa116 x111.Key.length c117) := hl122
                          refine LW.appendF (ρ := Rep.u8) (ys := x111.Key) (bnd_ret hx_x157) s118 cx.top kSl_24 rfl wn rfl rfl hl122 ?_; intro x_ oa158 c159 w161 hx_ e162 o163; cases hx_
                          replace cx := cx.step e162 rfl
                          replace s6 := s6.step e162
                          replace s9 := s9.step e162
                          replace b14 := b14.step e162 rfl
                          replace o105 := o105.imp id (fun o_ => o_.step e162 rfl)
                          replace b129 := b129.step e162 rfl
                          replace s118 := s118.step e162
                          replace s121 := s121.step e162
                          replace s3 := s3.step e162
                          refine LW.nil ?_; intro a_ ha_
                          exact ⟨rfl, _, _, ha_, ⟨oa158, c159, rfl, o163, trivial⟩, e162.ke0, cx, s6, s9, b14, (o105), b129, s118, s121, s3, trivial⟩
                        · intro o_ L_ F_ lab_ w_ ho_ hL_ hw_ hcl_ hb_ hr_ hq_; obtain rfl := Option.some.inj (ho_ : some _ = some o_); obtain ⟨cx, s6, s9, b14, o105, b129, s118, s121, s3, _⟩ := hq_
                          have hl20 := hb_ 20 _ rfl
                          refine LW.fldB 2 kFld_63_2 rfl wn rfl hl20 ?_
                          refine LW.nil ?_; intro a_ ha_
                          exact ⟨rfl, _, _, ha_, ⟨rfl, trivial⟩, Ke.refl, cx, s6, s9, b14, (o105), b129, s118, s121, s3, trivial⟩
                        · intro o_ L_ F_ lab_ w_ ho_ hL_ hw_ hcl_ hb_ hr_ hq_; obtain rfl := Option.some.inj (ho_ : some _ = some o_); obtain ⟨cx, s6, s9, b14, o105, b129, s118, s121, s3, _⟩ := hq_
                          obtain ⟨q164, hl124, rfl, _⟩ := hr_ 6 (by decide) (hw_ 6 (by kernel_rfl))
                          replace hl124 : Gk.look F_ 124 = some (.pointer (some ⟨g122, 2, none⟩)) := hl124
                          refine LW.loadB1 b129 kOne_24 rfl wn rfl hl124 ?_
                          refine LW.nil ?_; intro a_ ha_
                          exact ⟨rfl, _, _, ha_, ⟨rfl, trivial⟩, Ke.refl, cx, s6, s9, b14, (o105), b129, s118, s121, s3, trivial⟩
                        · intro o_ L_ F_ lab_ w_ ho_ hL_ hw_ hcl_ hb_ hr_ hq_; obtain rfl := Option.some.inj (ho_ : some _ = some o_); obtain ⟨cx, s6, s9, b14, o105, b129, s118, s121, s3, _⟩ := hq_
                          obtain ⟨q165, hl125, rfl, _⟩ := hr_ 7 (by decide) (hw_ 7 (by kernel_rfl))
                          replace hl125 : Gk.look F_ 125 = some (.slice oa119 x111.Data.length c120) := hl125
                          refine LW.appendF (ρ := Rep.u8) (ys := x111.Data) (bnd_ret hx_x166) s121 cx.top kSl_24 rfl wn rfl rfl hl125 ?_; intro x_ oa167 c168 w170 hx_ e171 o172; cases hx_
                          replace cx := cx.step e171 rfl
                          replace s6 := s6.step e171
                          replace s9 := s9.step e171
                          replace b14 := b14.step e171 rfl
                          replace o105 := o105.imp id (fun o_ => o_.step e171 rfl)
                          replace b129 := b129.step e171 rfl
                          replace s118 := s118.step e171
                          replace s121 := s121.step e171
                          replace s3 := s3.step e171
                          refine LW.nil ?_; intro a_ ha_
                          exact ⟨rfl, _, _, ha_, ⟨oa167, c168, rfl, o172, trivial⟩, e171.ke0, cx, s6, s9, b14, (o105), b129, s118, s121, s3, trivial⟩
                        · intro o_ L_ F_ lab_ w_ ho_ hL_ hw_ hcl_ hb_ hr_ hq_; obtain rfl := Option.some.inj (ho_ : some _ = some o_); obtain ⟨cx, s6, s9, b14, o105, b129, s118, s121, s3, _⟩ := hq_
                          have hl20 := hb_ 20 _ rfl
                          refine LW.fldB 3 kFld_63_3 rfl wn rfl hl20 ?_
                          refine LW.nil ?_; intro a_ ha_
                          exact ⟨rfl, _, _, ha_, ⟨rfl, trivial⟩, Ke.refl, cx, s6, s9, b14, (o105), b129, s118, s121, s3, trivial⟩
                        · intro o_ L_ F_ lab_ w_ ho_ hL_ hw_ hcl_ hb_ hr_ hq_; obtain rfl := Option.some.inj (ho_ : some _ = some o_); obtain ⟨cx, s6, s9, b14, o105, b129, s118, s121, s3, _⟩ := hq_
                          obtain ⟨q173, hl127, rfl, _⟩ := hr_ 9 (by decide) (hw_ 9 (by kernel_rfl))
                          replace hl127 : Gk.look F_ 127 = some (.pointer (some ⟨g122, 3, none⟩)) := hl127
                          refine LW.loadB1 b129 kOne_3 rfl wn rfl hl127 ?_
                          refine LW.nil ?_; intro a_ ha_
                          exact ⟨rfl, _, _, ha_, ⟨rfl, trivial⟩, Ke.refl, cx, s6, s9, b14, (o105), b129, s118, s121, s3, trivial⟩
                        · intro o_ L_ F_ lab_ w_ ho_ hL_ hw_ hcl_ hb_ hr_ hq_; obtain rfl := Option.some.inj (ho_ : some _ = some o_); obtain ⟨cx, s6, s9, b14, o105, b129, s118, s121, s3, _⟩ := hq_
                          obtain ⟨q174, hl120, rfl, _⟩ := hr_ 2 (by decide) (hw_ 2 (by kernel_rfl))
                          replace hl120 : Gk.look F_ 120 = some (.int .i64 x111.Peer) := hl120
                          obtain ⟨q178, hl123, oa175, c176, rfl, s177, _⟩ := hr_ 5 (by decide) (hw_ 5 (by kernel_rfl))
                          replace hl123 : Gk.look F_ 123 = some (.slice oa175 x157.length c176) := hl123
                          obtain ⟨q182, hl126, oa179, c180, rfl, s181, _⟩ := hr_ 8 (by decide) (hw_ 8 (by kernel_rfl))
                          replace hl126 : Gk.look F_ 126 = some (.slice oa179 x166.length c180) := hl126
                          obtain ⟨q183, hl128, rfl, _⟩ := hr_ 10 (by decide) (hw_ 10 (by kernel_rfl))
                          replace hl128 : Gk.look F_ 128 = some (.int .i64 x111.Until) := hl128
                          refine LW.build (vs := [(0, .int .i64 x111.Peer), (1, .slice oa175 x157.length c176), (2, .slice oa179 x166.length c180), (3, .int .i64 x111.Until)]) (cs := [.int .i64 x111.Peer, .slice oa175 x157.length c176, .slice oa179 x166.length c180, .int .i64 x111.Until]) (mp_cons hl120 (mp_cons hl123 (mp_cons hl126 (mp_cons hl128 mp_nil)))) ((kBuilt_63 _).trans rfl) wn rfl ?_
                          refine LW.nil ?_; intro a_ ha_
                          exact ⟨rfl, _, _, ha_, ⟨oa175, c176, oa179, c180, rfl, s177, s181, trivial⟩, Ke.refl, cx, s6, s9, b14, (o105), b129, s118, s121, s3, trivial⟩
                        · intro o_ L_ F_ lab_ w_ ho_ hL_ hw_ hcl_ hb_ hr_ hq_; obtain rfl := Option.some.inj (ho_ : some _ = some o_); obtain ⟨cx, s6, s9, b14, o105, b129, s118, s121, s3, _⟩ := hq_
                          obtain ⟨q190, hl129, oa184, c185, oa187, c188, rfl, s186, s189, _⟩ := hr_ 11 (by decide) (hw_ 11 (by kernel_rfl))
                          replace hl129 : Gk.look F_ 129 = some (.agg ([.int .i64 x111.Peer, .slice oa184 x157.length c185, .slice oa187 x166.length c188, .int .i64 x111.Until] : List Value).toArray) := hl129
                          refine LW.buildSlice (ρ := R_api_Partial) (vs := [(0, .agg ([.int .i64 x111.Peer, .slice oa184 x157.length c185, .slice oa187 x166.length c188, .int .i64 x111.Until] : List Value).toArray)]) (css := [[.int .i64 x111.Peer, .slice oa184 x157.length c185, .slice oa187 x166.length c188, .int .i64 x111.Until]]) (xs := [(S_api_Partial.mk x111.Peer x157 x166 x111.Until)]) (mp_cons hl129 mp_nil) kSl_22 kZero_63 (by kernel_rfl) rfl rfl ⟨⟨_, _, _, _, rfl, s186, s189, trivial⟩, trivial⟩ cx.top wn rfl ?_
                          intro oa191 c192 lab195 w196 e193 s194
                          replace cx := cx.step e193 rfl
                          replace s6 := s6.step e193
                          replace s9 := s9.step e193
                          replace b14 := b14.step e193 rfl
                          replace o105 := o105.imp id (fun o_ => o_.step e193 rfl)
                          replace b129 := b129.step e193 rfl
                          replace s118 := s118.step e193
                          replace s121 := s121.step e193
                          replace s3 := s3.step e193
                          replace s186 := s186.step e193
                          replace s189 := s189.step e193
                          refine LW.nil ?_; intro a_ ha_
                          exact ⟨rfl, _, _, ha_, ⟨oa191, c192, rfl, s194, trivial⟩, e193.ke0, cx, s6, s9, b14, (o105), b129, s118, s121, s3, trivial⟩
                        · intro o_ L_ F_ lab_ w_ ho_ hL_ hw_ hcl_ hb_ hr_ hq_; obtain rfl := Option.some.inj (ho_ : some _ = some o_); obtain ⟨cx, s6, s9, b14, o105, b129, s118, s121, s3, _⟩ := hq_
                          rcases o105 with h_ | o105
                          · rw [hL_] at h_; cases h_
                          obtain ⟨q197, hl118, rfl, _⟩ := hr_ 0 (by decide) (hw_ 0 (by kernel_rfl))
                          replace hl118 : Gk.look F_ 118 = some (.slice oa103 x101.length c104) := hl118
                          obtain ⟨q201, hl130, oa198, c199, rfl, s200, _⟩ := hr_ 12 (by decide) (hw_ 12 (by kernel_rfl))
                          replace hl130 : Gk.look F_ 130 = some (.slice oa198 ([(S_api_Partial.mk x111.Peer x157 x166 x111.Until)]).length c199) := hl130
                          refine LW.append (ρ := R_api_Partial) (xs := x101) (ys := [(S_api_Partial.mk x111.Peer x157 x166 x111.Until)]) (bnd_ret hx_x202) o105 (SL.flat' (lab := _) (c := c199) s200) cx.top rfl kSl_22 rfl wn rfl hl118 hl130 ?_; intro x_ oa203 c204 lab205 w206 hx_ e207 o208; cases hx_
                          replace cx := cx.step e207 rfl
                          replace s6 := s6.step e207
                          replace s9 := s9.step e207
                          replace b14 := b14.step e207 rfl
                          replace b129 := b129.step e207 rfl
                          replace s118 := s118.step e207
                          replace s121 := s121.step e207
                          replace s3 := s3.step e207
                          replace s200 := s200.step e207
                          refine LW.nil ?_; intro a_ ha_
                          exact ⟨rfl, _, _, ha_, ⟨oa203, c204, rfl, o208, trivial⟩, (e207.ke rfl), cx, s6, s9, b14, (.inl upd_self), b129, s118, s121, s3, trivial⟩
                      · intro F_ lab_ w_ hb_ hr_ hq_; obtain ⟨cx, s6, s9, b14, _, b129, s118, s121, s3, _⟩ := hq_
                        obtain ⟨q214, hl131, oa211, c212, rfl, s213, _⟩ := hr_ 13 (by decide)
                        refine LW.sub (G := [(1, .int .i64 a1), (2, .slice oa4 a2.length c5), (4, .slice oa7 a4.length c8), (5, .int .i64 a5), (9, .pointer (some ⟨g10, 0, none⟩)), (18, .int .i64 y149), (20, .pointer (some ⟨g122, 0, none⟩)), (85, .slice oa1 a0.length c2), (86, .int .i64 (a0.length : Int)), (87, .int .i64 ((k109 : Nat) : Int)), (131, .slice oa211 x202.length c212)]) ⟨hb_ 1 _ rfl, hb_ 2 _ rfl, hb_ 4 _ rfl, hb_ 5 _ rfl, hb_ 9 _ rfl, hb_ 18 _ rfl, hb_ 20 _ rfl, hb_ 85 _ rfl, hb_ 86 _ rfl, hb_ 87 _ rfl, hl131, trivial⟩ ?_
                        simp only [List.drop_succ_cons, List.drop_zero]
                        refine LW.assign wn rfl rfl ?_
                        refine LW.nil ?_
                        refine EW.block_n ?_
                        refine EW.seq_n ?_
                        refine CW.region ?_
                        refine LW.add_lit (w64_succ hlt2 s3.le) wn rfl rfl rfl ?_
                        refine LW.move wn rfl rfl ?_
                        refine LW.nil ?_
                        refine EW.sub (G := [(1, .int .i64 a1), (2, .slice oa4 a2.length c5), (4, .slice oa7 a4.length c8), (5, .int .i64 a5), (9, .pointer (some ⟨g10, 0, none⟩)), (17, .slice oa211 x202.length c212), (18, .int .i64 y149), (85, .slice oa1 a0.length c2), (86, .int .i64 (a0.length : Int)), (87, .int .i64 ((k109 + 1 : Nat) : Int))]) ⟨rfl, rfl, rfl, rfl, rfl, rfl, rfl, rfl, rfl, rfl, trivial⟩ ?_
                        exact EW.join_n ⟨_, Nat.lt_succ_self _, _, k109 + 1, rem110, _, _, oa211, c212, rfl, hd, rfl, cx, s6, s9, b14, s213, s3, hm⟩
          · rintro _ w99 ⟨lab100, oa96, c97, rfl, cx, s6, s9, b14, o98, _⟩
            have hm := hm_; clear hm_
            refine EW.seq_n ?_
            refine CW.seq ?_
            refine CW.region ?_
            refine LW.assign wn rfl rfl ?_
            refine LW.nil ?_
            refine EW.seq_n ?_
            refine CW.seq ?_
            refine CW.seq ?_
            refine CW.region ?_
            refine LW.fldB 0 kFld_26_0 rfl wn rfl rfl ?_
            refine LW.loadB1 b14 kOne_3 rfl wn rfl rfl ?_
            refine LW.gtr hm wn rfl rfl rfl ?_; clear hm; intro x215 hm
            refine LW.nil ?_
            refine EW.seq_n ?_
            obtain ⟨s217, h218, hs219, hs220⟩ := bndS_some hm; clear hm
            refine CW.join_any (fun F_ w224 => ∃ (y216 : (List UInt8)) (lab225 : Lab) (oa221 : Option Addr) (c222 : Nat), s217 = .inr y216 ∧ F_ = [(1, .int .i64 a1), (2, .slice oa4 a2.length c5), (4, .slice oa7 a4.length c8), (5, .int .i64 a5), (9, .pointer (some ⟨g10, 0, none⟩)), (17, .slice oa96 y94.1.length c97), (18, .int .i64 y94.2), (22, .slice oa221 y216.length c222)] ∧ Cx [] w lab w224 lab225 ∧ SL Rep.u8 lab225 w224 oa4 c5 a2 ∧ SL Rep.u8 lab225 w224 oa7 c8 a4 ∧ Box lab225 w224 19 g10 26 [.int .i64 a3.Num, .bool a3.More, .int .i64 a3.Size] ∧ Own R_api_Partial lab225 w224 27 63 oa96 c97 y94.1 ∧ Own Rep.u8 lab225 w224 32 5 oa221 c222 y216 ∧ True) ?_ ?_
            · have hm := h218; clear h218
              refine CW.cond (b := x215) rfl (fun hb226 => ?_) (fun hb226 => ?_)
              · replace hm := cond_t hm hb226
                refine CW.seq ?_
                refine CW.seq ?_
                obtain ⟨y227, h228, hm_⟩ := bnd_some hm; clear hm
                refine CW.join_any (fun F_ w229 => ∃ (lab230 : Lab) , F_ = [(1, .int .i64 a1), (2, .slice oa4 a2.length c5), (4, .slice oa7 a4.length c8), (5, .int .i64 a5), (9, .pointer (some ⟨g10, 0, none⟩)), (17, .slice oa96 y94.1.length c97), (18, .int .i64 y94.2), (152, .bool y227)] ∧ Cx [] w lab w229 lab230 ∧ SL Rep.u8 lab230 w229 oa4 c5 a2 ∧ SL Rep.u8 lab230 w229 oa7 c8 a4 ∧ Box lab230 w229 19 g10 26 [.int .i64 a3.Num, .bool a3.More, .int .i64 a3.Size] ∧ Own R_api_Partial lab230 w229 27 63 oa96 c97 y94.1 ∧ True) ?_ ?_
                · have hm := h228; clear h228
                  obtain ⟨x232, hx_x232, hm_⟩ := letm_some hm; clear hm; have hm := hm_; clear hm_
                  rcases Bool.eq_false_or_eq_true x232 with hb234 | hb234
                  · replace hm := cond_t hm hb234
                    refine CW.sub (G := [(1, .int .i64 a1), (2, .slice oa4 a2.length c5), (4, .slice oa7 a4.length c8), (5, .int .i64 a5), (9, .pointer (some ⟨g10, 0, none⟩)), (17, .slice oa96 y94.1.length c97), (18, .int .i64 y94.2)]) ⟨rfl, rfl, rfl, rfl, rfl, rfl, rfl, trivial⟩ ?_
                    refine CW.drawL (fun i_ => []) (fun i_ => by (try dsimp only); (repeat' split) <;> rfl) kMix_ 17 (by kernel_rfl) cx.top ?_
                    intro w237 e238
                    replace cx := cx.step e238 rfl
                    replace s6 := s6.step e238
                    replace s9 := s9.step e238
                    replace b14 := b14.step e238 rfl
                    replace o98 := o98.step e238 rfl
                    clear e238
                    refine ⟨[(fun L_ lab_ w_ v_ => v_ = .int .i64 y94.2 ∧ True),
    (fun L_ lab_ w_ v_ => v_ = .bool x232 ∧ True),
    (fun L_ lab_ w_ v_ => v_ = .bool x232 ∧ True),
    (fun L_ lab_ w_ v_ => v_ = undef ∧ True),
    (fun L_ lab_ w_ v_ => v_ = undef ∧ True),
    (fun L_ lab_ w_ v_ => v_ = undef ∧ True),
    (fun L_ lab_ w_ v_ => v_ = undef ∧ True),
    (fun L_ lab_ w_ v_ => v_ = undef ∧ True),
    (fun L_ lab_ w_ v_ => v_ = undef ∧ True),
    (fun L_ lab_ w_ v_ => v_ = undef ∧ True),
    (fun L_ lab_ w_ v_ => v_ = undef ∧ True),
    (fun L_ lab_ w_ v_ => v_ = undef ∧ True),
    (fun L_ lab_ w_ v_ => v_ = undef ∧ True),
    (fun L_ lab_ w_ v_ => v_ = undef ∧ True),
    (fun L_ lab_ w_ v_ => v_ = undef ∧ True),
    (fun L_ lab_ w_ v_ => v_ = undef ∧ True),
    (fun L_ lab_ w_ v_ => v_ = .bool true ∧ True)], (fun L_ lab_ w_ => Cx [] w lab w_ lab_ ∧ SL Rep.u8 lab_ w_ oa4 c5 a2 ∧ SL Rep.u8 lab_ w_ oa7 c8 a4 ∧ Box lab_ w_ 19 g10 26 [.int .i64 a3.Num, .bool a3.More, .int .i64 a3.Size] ∧ Own R_api_Partial lab_ w_ 27 63 oa96 c97 y94.1 ∧ True), ?_, ⟨cx, s6, s9, b14, o98, trivial⟩, ?_, ?_⟩
                    · exact ⟨by rintro i_ L_ lab_ w_ lab2_ w2_ v_ hne_ hd_ hk_ hp_ ⟨hv_, _⟩; exact ⟨hv_, trivial⟩, by rintro i_ L_ lab_ w_ lab2_ w2_ v_ hne_ hd_ hk_ hp_ ⟨hv_, _⟩; exact ⟨hv_, trivial⟩, by rintro i_ L_ lab_ w_ lab2_ w2_ v_ hne_ hd_ hk_ hp_ ⟨hv_, _⟩; exact ⟨hv_, trivial⟩, by rintro i_ L_ lab_ w_ lab2_ w2_ v_ hne_ hd_ hk_ hp_ ⟨hv_, _⟩; exact ⟨hv_, trivial⟩, by rintro i_ L_ lab_ w_ lab2_ w2_ v_ hne_ hd_ hk_ hp_ ⟨hv_, _⟩; exact ⟨hv_, trivial⟩, by rintro i_ L_ lab_ w_ lab2_ w2_ v_ hne_ hd_ hk_ hp_ ⟨hv_, _⟩; exact ⟨hv_, trivial⟩, by rintro i_ L_ lab_ w_ lab2_ w2_ v_ hne_ hd_ hk_ hp_ ⟨hv_, _⟩; exact ⟨hv_, trivial⟩, by rintro i_ L_ lab_ w_ lab2_ w2_ v_ hne_ hd_ hk_ hp_ ⟨hv_, _⟩; exact ⟨hv_, trivial⟩, by rintro i_ L_ lab_ w_ lab2_ w2_ v_ hne_ hd_ hk_ hp_ ⟨hv_, _⟩; exact ⟨hv_, trivial⟩, by rintro i_ L_ lab_ w_ lab2_ w2_ v_ hne_ hd_ hk_ hp_ ⟨hv_, _⟩; exact ⟨hv_, trivial⟩, by rintro i_ L_ lab_ w_ lab2_ w2_ v_ hne_ hd_ hk_ hp_ ⟨hv_, _⟩; exact ⟨hv_, trivial⟩, by rintro i_ L_ lab_ w_ lab2_ w2_ v_ hne_ hd_ hk_ hp_ ⟨hv_, _⟩; exact ⟨hv_, trivial⟩, by rintro i_ L_ lab_ w_ lab2_ w2_ v_ hne_ hd_ hk_ hp_ ⟨hv_, _⟩; exact ⟨hv_, trivial⟩, by rintro i_ L_ lab_ w_ lab2_ w2_ v_ hne_ hd_ hk_ hp_ ⟨hv_, _⟩; exact ⟨hv_, trivial⟩, by rintro i_ L_ lab_ w_ lab2_ w2_ v_ hne_ hd_ hk_ hp_ ⟨hv_, _⟩; exact ⟨hv_, trivial⟩, by rintro i_ L_ lab_ w_ lab2_ w2_ v_ hne_ hd_ hk_ hp_ ⟨hv_, _⟩; exact ⟨hv_, trivial⟩, by rintro i_ L_ lab_ w_ lab2_ w2_ v_ hne_ hd_ hk_ hp_ ⟨hv_, _⟩; exact ⟨hv_, trivial⟩, trivial⟩
                    · refine (ob_succ (ob_succ (ob_succ (ob_succ (ob_succ (ob_succ (ob_succ (ob_succ (ob_succ (ob_succ (ob_succ (ob_succ (ob_succ (ob_succ (ob_succ (ob_succ (ob_succ ob_nil ?_) ?_) ?_) ?_) ?_) ?_) ?_) ?_) ?_) ?_) ?_) ?_) ?_) ?_) ?_) ?_) ?_)
                      · exact ob_moveb (v := .int .i64 y94.2) rfl (fun _ h_ => h_ _ _ rfl) rfl (fun _ _ _ => ⟨rfl, trivial⟩) (fun _ _ _ h_ => h_)
                      · intro o_ L_ F_ lab_ w_ ho_ hL_ hw_ hcl_ hb_ hr_ hq_; obtain rfl := Option.some.inj (ho_ : some _ = some o_); obtain ⟨cx, s6, s9, b14, o98, _⟩ := hq_
                        obtain ⟨q231, hl136, rfl, _⟩ := hr_ 0 (by decide) (hw_ 0 (by kernel_rfl))
                        replace hl136 : Gk.look F_ 136 = some (.int .i64 y94.2) := hl136
                        refine LW.lss (letm_eq hx_x232) wn rfl hl136 rfl ?_; intro x_ hx_; cases hx_
                        refine LW.nil ?_; intro a_ ha_
                        exact ⟨rfl, _, _, ha_, ⟨rfl, trivial⟩, Ke.refl, cx, s6, s9, b14, o98, trivial⟩
                      · intro o_ L_ F_ lab_ w_ ho_ hL_ hw_ hcl_ hb_ hr_ hq_; obtain rfl := Option.some.inj (ho_ : some _ = some o_); obtain ⟨cx, s6, s9, b14, o98, _⟩ := hq_
                        obtain ⟨q233, hl137, rfl, _⟩ := hr_ 1 (by decide) (hw_ 1 (by kernel_rfl))
                        replace hl137 : Gk.look F_ 137 = some (.bool x232) := hl137
                        refine LW.move wn rfl hl137 ?_
                        refine LW.nil ?_; intro a_ ha_
                        exact ⟨rfl, _, _, ha_, ⟨rfl, trivial⟩, Ke.refl, cx, s6, s9, b14, o98, trivial⟩
                      · exact ob_skip (b' := true) 2 rfl (by kernel_rfl) (by decide) ⟨_, rfl⟩ (fun _ _ _ _ h_ => .inl (h_.1.trans (congrArg Value.bool hb234))) rfl rfl (fun _ _ _ => ⟨rfl, trivial⟩) (fun _ _ _ h_ => h_)
                      · exact ob_skip (b' := true) 2 rfl (by kernel_rfl) (by decide) ⟨_, rfl⟩ (fun _ _ _ _ h_ => .inl (h_.1.trans (congrArg Value.bool hb234))) rfl rfl (fun _ _ _ => ⟨rfl, trivial⟩) (fun _ _ _ h_ => h_)
                      · exact ob_skip (b' := true) 2 rfl (by kernel_rfl) (by decide) ⟨_, rfl⟩ (fun _ _ _ _ h_ => .inl (h_.1.trans (congrArg Value.bool hb234))) rfl rfl (fun _ _ _ => ⟨rfl, trivial⟩) (fun _ _ _ h_ => h_)
                      · exact ob_skip (b' := true) 2 rfl (by kernel_rfl) (by decide) ⟨_, rfl⟩ (fun _ _ _ _ h_ => .inl (h_.1.trans (congrArg Value.bool hb234))) rfl rfl (fun _ _ _ => ⟨rfl, trivial⟩) (fun _ _ _ h_ => h_)
                      · exact ob_skip (b' := true) 2 rfl (by kernel_rfl) (by decide) ⟨_, rfl⟩ (fun _ _ _ _ h_ => .inl (h_.1.trans (congrArg Value.bool hb234))) rfl rfl (fun _ _ _ => ⟨rfl, trivial⟩) (fun _ _ _ h_ => h_)
                      · exact ob_skip (b' := true) 2 rfl (by kernel_rfl) (by decide) ⟨_, rfl⟩ (fun _ _ _ _ h_ => .inl (h_.1.trans (congrArg Value.bool hb234))) rfl rfl (fun _ _ _ => ⟨rfl, trivial⟩) (fun _ _ _ h_ => h_)
                      · exact ob_skip (b' := true) 2 rfl (by kernel_rfl) (by decide) ⟨_, rfl⟩ (fun _ _ _ _ h_ => .inl (h_.1.trans (congrArg Value.bool hb234))) rfl rfl (fun _ _ _ => ⟨rfl, trivial⟩) (fun _ _ _ h_ => h_)
                      · exact ob_skip (b' := true) 2 rfl (by kernel_rfl) (by decide) ⟨_, rfl⟩ (fun _ _ _ _ h_ => .inl (h_.1.trans (congrArg Value.bool hb234))) rfl rfl (fun _ _ _ => ⟨rfl, trivial⟩) (fun _ _ _ h_ => h_)
                      · exact ob_skip (b' := true) 2 rfl (by kernel_rfl) (by decide) ⟨_, rfl⟩ (fun _ _ _ _ h_ => .inl (h_.1.trans (congrArg Value.bool hb234))) rfl rfl (fun _ _ _ => ⟨rfl, trivial⟩) (fun _ _ _ h_ => h_)
                      · exact ob_skip (b' := true) 2 rfl (by kernel_rfl) (by decide) ⟨_, rfl⟩ (fun _ _ _ _ h_ => .inl (h_.1.trans (congrArg Value.bool hb234))) rfl rfl (fun _ _ _ => ⟨rfl, trivial⟩) (fun _ _ _ h_ => h_)
                      · exact ob_skip (b' := true) 2 rfl (by kernel_rfl) (by decide) ⟨_, rfl⟩ (fun _ _ _ _ h_ => .inl (h_.1.trans (congrArg Value.bool hb234))) rfl rfl (fun _ _ _ => ⟨rfl, trivial⟩) (fun _ _ _ h_ => h_)
                      · exact ob_skip (b' := true) 2 rfl (by kernel_rfl) (by decide) ⟨_, rfl⟩ (fun _ _ _ _ h_ => .inl (h_.1.trans (congrArg Value.bool hb234))) rfl rfl (fun _ _ _ => ⟨rfl, trivial⟩) (fun _ _ _ h_ => h_)
                      · exact ob_skip (b' := true) 2 rfl (by kernel_rfl) (by decide) ⟨_, rfl⟩ (fun _ _ _ _ h_ => .inl (h_.1.trans (congrArg Value.bool hb234))) rfl rfl (fun _ _ _ => ⟨rfl, trivial⟩) (fun _ _ _ h_ => h_)
                      · intro o_ L_ F_ lab_ w_ ho_ hL_ hw_ hcl_ hb_ hr_ hq_; obtain rfl := Option.some.inj (ho_ : some _ = some o_); obtain ⟨cx, s6, s9, b14, o98, _⟩ := hq_
                        obtain ⟨q235, hl138, rfl, _⟩ := hr_ 2 (by decide) (hw_ 2 (by kernel_rfl))
                        replace hl138 : Gk.look F_ 138 = some (.bool x232) := hl138
                        obtain ⟨q236, hl151, rfl, _⟩ := hr_ 15 (by decide) (hw_ 15 (by kernel_rfl))
                        replace hl151 : Gk.look F_ 151 = some (undef) := hl151
                        refine LW.pick_t wn rfl (bk hl138 hb234) rfl ?_
                        refine LW.nil ?_; intro a_ ha_
                        exact ⟨rfl, _, _, ha_, ⟨rfl, trivial⟩, Ke.refl, cx, s6, s9, b14, o98, trivial⟩
                    · intro F_ lab_ w_ hb_ hr_ hq_; obtain ⟨cx, s6, s9, b14, o98, _⟩ := hq_
                      obtain ⟨q239, hl152, rfl, _⟩ := hr_ 16 (by decide)
                      refine LW.sub (G := [(1, .int .i64 a1), (2, .slice oa4 a2.length c5), (4, .slice oa7 a4.length c8), (5, .int .i64 a5), (9, .pointer (some ⟨g10, 0, none⟩)), (17, .slice oa96 y94.1.length c97), (18, .int .i64 y94.2), (152, .bool true)]) ⟨hb_ 1 _ rfl, hb_ 2 _ rfl, hb_ 4 _ rfl, hb_ 5 _ rfl, hb_ 9 _ rfl, hb_ 17 _ rfl, hb_ 18 _ rfl, hl152, trivial⟩ ?_
                      simp only [List.drop_succ_cons, List.drop_nil, List.drop_zero]
                      refine LW.nil ?_
                      obtain rfl := Option.some.inj hm
                      refine EW.sub (G := [(1, .int .i64 a1), (2, .slice oa4 a2.length c5), (4, .slice oa7 a4.length c8), (5, .int .i64 a5), (9, .pointer (some ⟨g10, 0, none⟩)), (17, .slice oa96 y94.1.length c97), (18, .int .i64 y94.2), (152, .bool true)]) ⟨rfl, rfl, rfl, rfl, rfl, rfl, rfl, rfl, trivial⟩ ?_
                      exact EW.join_n ⟨_, rfl, cx, s6, s9, b14, o98, trivial⟩
                  · replace hm := cond_f hm hb234
                    obtain ⟨x249, hx_x249, hm_⟩ := bnd_some hm; clear hm; have hm := hm_; clear hm_
                    obtain ⟨y291, hx_y291, hm_⟩ := bnd_some hm; clear hm; have hm := hm_; clear hm_
                    obtain ⟨x298, hx_x298, hm_⟩ := letm_some hm; clear hm; have hm := hm_; clear hm_
                    obtain ⟨x302, hx_x302, hm_⟩ := letm_some hm; clear hm; have hm := hm_; clear hm_
                    refine CW.sub (G := [(1, .int .i64 a1), (2, .slice oa4 a2.length c5), (4, .slice oa7 a4.length c8), (5, .int .i64 a5), (9, .pointer (some ⟨g10, 0, none⟩)), (17, .slice oa96 y94.1.length c97), (18, .int .i64 y94.2)]) ⟨rfl, rfl, rfl, rfl, rfl, rfl, rfl, trivial⟩ ?_
                    refine CW.drawL (fun i_ => []) (fun i_ => by (try dsimp only); (repeat' split) <;> rfl) kMix_ 17 (by kernel_rfl) cx.top ?_
                    intro w305 e306
                    replace cx := cx.step e306 rfl
                    replace s6 := s6.step e306
                    replace s9 := s9.step e306
                    replace b14 := b14.step e306 rfl
                    replace o98 := o98.step e306 rfl
                    clear e306
                    refine ⟨[(fun L_ lab_ w_ v_ => v_ = .int .i64 y94.2 ∧ True),
    (fun L_ lab_ w_ v_ => v_ = .bool x232 ∧ True),
    (fun L_ lab_ w_ v_ => v_ = .bool x232 ∧ True),
    (fun L_ lab_ w_ v_ => v_ = .slice oa96 y94.1.length c97 ∧ True),
    (fun L_ lab_ w_ v_ => v_ = .int .i64 y94.2 ∧ True),
    (fun L_ lab_ w_ v_ => ∃ (p245 : Addr) (oa252 : Option Addr) (c253 : Nat) (oa255 : Option Addr) (c256 : Nat), v_ = .pointer (some p245) ∧ At (mask lab_ 27) w_ p245 [.int .i64 x249.Peer, .slice oa252 x249.Key.length c253, .slice oa255 x249.Data.length c256, .int .i64 x249.Until] ∧ SL Rep.u8 lab_ w_ oa252 c253 x249.Key ∧ SL Rep.u8 lab_ w_ oa255 c256 x249.Data ∧ True),
    (fun L_ lab_ w_ v_ => ∃ (p258 : Addr) (oa260 : Option Addr) (c261 : Nat) (oa263 : Option Addr) (c264 : Nat), v_ = .pointer (some (p258.add 2)) ∧ At (mask lab_ 27) w_ p258 [.int .i64 x249.Peer, .slice oa260 x249.Key.length c261, .slice oa263 x249.Data.length c264, .int .i64 x249.Until] ∧ SL Rep.u8 lab_ w_ oa260 c261 x249.Key ∧ SL Rep.u8 lab_ w_ oa263 c264 x249.Data ∧ True),
    (fun L_ lab_ w_ v_ => ∃ (oa273 : Option Addr) (c274 : Nat), v_ = .slice oa273 x249.Data.length c274 ∧ SL Rep.u8 lab_ w_ oa273 c274 x249.Data ∧ True),
    (fun L_ lab_ w_ v_ => v_ = .int .i64 (x249.Data.length : Int) ∧ True),
    (fun L_ lab_ w_ v_ => v_ = .pointer (some ⟨g10, 0, none⟩) ∧ True),
    (fun L_ lab_ w_ v_ => v_ = .int .i64 a3.Num ∧ True),
    (fun L_ lab_ w_ v_ => v_ = .pointer (some ⟨g10, 2, none⟩) ∧ True),
    (fun L_ lab_ w_ v_ => v_ = .int .i64 a3.Size ∧ True),
    (fun L_ lab_ w_ v_ => v_ = .int .i64 y291 ∧ True),
    (fun L_ lab_ w_ v_ => v_ = .int .i64 x298 ∧ True),
    (fun L_ lab_ w_ v_ => v_ = .bool x302 ∧ True),
    (fun L_ lab_ w_ v_ => v_ = .bool x302 ∧ True)], (fun L_ lab_ w_ => Cx [] w lab w_ lab_ ∧ SL Rep.u8 lab_ w_ oa4 c5 a2 ∧ SL Rep.u8 lab_ w_ oa7 c8 a4 ∧ Box lab_ w_ 19 g10 26 [.int .i64 a3.Num, .bool a3.More, .int .i64 a3.Size] ∧ Own R_api_Partial lab_ w_ 27 63 oa96 c97 y94.1 ∧ True), ?_, ⟨cx, s6, s9, b14, o98, trivial⟩, ?_, ?_⟩
                    · exact ⟨by rintro i_ L_ lab_ w_ lab2_ w2_ v_ hne_ hd_ hk_ hp_ ⟨hv_, _⟩; exact ⟨hv_, trivial⟩, by rintro i_ L_ lab_ w_ lab2_ w2_ v_ hne_ hd_ hk_ hp_ ⟨hv_, _⟩; exact ⟨hv_, trivial⟩, by rintro i_ L_ lab_ w_ lab2_ w2_ v_ hne_ hd_ hk_ hp_ ⟨hv_, _⟩; exact ⟨hv_, trivial⟩, by rintro i_ L_ lab_ w_ lab2_ w2_ v_ hne_ hd_ hk_ hp_ ⟨hv_, _⟩; exact ⟨hv_, trivial⟩, by rintro i_ L_ lab_ w_ lab2_ w2_ v_ hne_ hd_ hk_ hp_ ⟨hv_, _⟩; exact ⟨hv_, trivial⟩, by rintro i_ L_ lab_ w_ lab2_ w2_ v_ hne_ hd_ hk_ hp_ ⟨p245, oa252, c253, oa255, c256, hv_, ha248, s254, s257, _⟩; exact ⟨p245, oa252, c253, oa255, c256, hv_, (ha248.keep (hk_.mask (by (try dsimp only); (repeat' split) <;> first | rfl | contradiction) (by (try dsimp only); (repeat' split) <;> first | rfl | contradiction))), (s254.keep hp_), (s257.keep hp_), trivial⟩, by rintro i_ L_ lab_ w_ lab2_ w2_ v_ hne_ hd_ hk_ hp_ ⟨p258, oa260, c261, oa263, c264, hv_, ha259, s262, s265, _⟩; exact ⟨p258, oa260, c261, oa263, c264, hv_, (ha259.keep (hk_.mask (by (try dsimp only); (repeat' split) <;> first | rfl | contradiction) (by (try dsimp only); (repeat' split) <;> first | rfl | contradiction))), (s262.keep hp_), (s265.keep hp_), trivial⟩, by rintro i_ L_ lab_ w_ lab2_ w2_ v_ hne_ hd_ hk_ hp_ ⟨oa273, c274, hv_, s275, _⟩; exact ⟨oa273, c274, hv_, (s275.keep hp_), trivial⟩, by rintro i_ L_ lab_ w_ lab2_ w2_ v_ hne_ hd_ hk_ hp_ ⟨hv_, _⟩; exact ⟨hv_, trivial⟩, by rintro i_ L_ lab_ w_ lab2_ w2_ v_ hne_ hd_ hk_ hp_ ⟨hv_, _⟩; exact ⟨hv_, trivial⟩, by rintro i_ L_ lab_ w_ lab2_ w2_ v_ hne_ hd_ hk_ hp_ ⟨hv_, _⟩; exact ⟨hv_, trivial⟩, by rintro i_ L_ lab_ w_ lab2_ w2_ v_ hne_ hd_ hk_ hp_ ⟨hv_, _⟩; exact ⟨hv_, trivial⟩, by rintro i_ L_ lab_ w_ lab2_ w2_ v_ hne_ hd_ hk_ hp_ ⟨hv_, _⟩; exact ⟨hv_, trivial⟩, by rintro i_ L_ lab_ w_ lab2_ w2_ v_ hne_ hd_ hk_ hp_ ⟨hv_, _⟩; exact ⟨hv_, trivial⟩, by rintro i_ L_ lab_ w_ lab2_ w2_ v_ hne_ hd_ hk_ hp_ ⟨hv_, _⟩; exact ⟨hv_, trivial⟩, by rintro i_ L_ lab_ w_ lab2_ w2_ v_ hne_ hd_ hk_ hp_ ⟨hv_, _⟩; exact ⟨hv_, trivial⟩, by rintro i_ L_ lab_ w_ lab2_ w2_ v_ hne_ hd_ hk_ hp_ ⟨hv_, _⟩; exact ⟨hv_, trivial⟩, trivial⟩
                    · refine (ob_succ (ob_succ (ob_succ (ob_succ (ob_succ (ob_succ (ob_succ (ob_succ (ob_succ (ob_succ (ob_succ (ob_succ (ob_succ (ob_succ (ob_succ (ob_succ (ob_succ ob_nil ?_) ?_) ?_) ?_) ?_) ?_) ?_) ?_) ?_) ?_) ?_) ?_) ?_) ?_) ?_) ?_) ?_)
                      · exact ob_moveb (v := .int .i64 y94.2) rfl (fun _ h_ => h_ _ _ rfl) rfl (fun _ _ _ => ⟨rfl, trivial⟩) (fun _ _ _ h_ => h_)
                      · intro o_ L_ F_ lab_ w_ ho_ hL_ hw_ hcl_ hb_ hr_ hq_; obtain rfl := Option.some.inj (ho_ : some _ = some o_); obtain ⟨cx, s6, s9, b14, o98, _⟩ := hq_
                        obtain ⟨q231, hl136, rfl, _⟩ := hr_ 0 (by decide) (hw_ 0 (by kernel_rfl))
                        replace hl136 : Gk.look F_ 136 = some (.int .i64 y94.2) := hl136
                        refine LW.lss (letm_eq hx_x232) wn rfl hl136 rfl ?_; intro x_ hx_; cases hx_
                        refine LW.nil ?_; intro a_ ha_
                        exact ⟨rfl, _, _, ha_, ⟨rfl, trivial⟩, Ke.refl, cx, s6, s9, b14, o98, trivial⟩
                      · intro o_ L_ F_ lab_ w_ ho_ hL_ hw_ hcl_ hb_ hr_ hq_; obtain rfl := Option.some.inj (ho_ : some _ = some o_); obtain ⟨cx, s6, s9, b14, o98, _⟩ := hq_
                        obtain ⟨q233, hl137, rfl, _⟩ := hr_ 1 (by decide) (hw_ 1 (by kernel_rfl))
                        replace hl137 : Gk.look F_ 137 = some (.bool x232) := hl137
                        refine LW.move wn rfl hl137 ?_
                        refine LW.nil ?_; intro a_ ha_
                        exact ⟨rfl, _, _, ha_, ⟨rfl, trivial⟩, Ke.refl, cx, s6, s9, b14, o98, trivial⟩
                      · intro o_ L_ F_ lab_ w_ ho_ hL_ hw_ hcl_ hb_ hr_ hq_; obtain rfl := Option.some.inj (ho_ : some _ = some o_); obtain ⟨cx, s6, s9, b14, o98, _⟩ := hq_
                        have hl17 := hb_ 17 _ rfl
                        obtain ⟨q240, hl138, rfl, _⟩ := hr_ 2 (by decide) (hw_ 2 (by kernel_rfl))
                        replace hl138 : Gk.look F_ 138 = some (.bool x232) := hl138
                        refine LW.move (ws 138 rfl (bk hl138 hb234)) rfl hl17 ?_
                        refine LW.nil ?_; intro a_ ha_
                        exact ⟨rfl, _, _, ha_, ⟨rfl, trivial⟩, Ke.refl, cx, s6, s9, b14, o98, trivial⟩
                      · intro o_ L_ F_ lab_ w_ ho_ hL_ hw_ hcl_ hb_ hr_ hq_; obtain rfl := Option.some.inj (ho_ : some _ = some o_); obtain ⟨cx, s6, s9, b14, o98, _⟩ := hq_
                        have hl18 := hb_ 18 _ rfl
                        obtain ⟨q241, hl138, rfl, _⟩ := hr_ 2 (by decide) (hw_ 2 (by kernel_rfl))
                        replace hl138 : Gk.look F_ 138 = some (.bool x232) := hl138
                        refine LW.move (ws 138 rfl (bk hl138 hb234)) rfl hl18 ?_
                        refine LW.nil ?_; intro a_ ha_
                        exact ⟨rfl, _, _, ha_, ⟨rfl, trivial⟩, Ke.refl, cx, s6, s9, b14, o98, trivial⟩
                      · intro o_ L_ F_ lab_ w_ ho_ hL_ hw_ hcl_ hb_ hr_ hq_; obtain rfl := Option.some.inj (ho_ : some _ = some o_); obtain ⟨cx, s6, s9, b14, o98, _⟩ := hq_
                        obtain ⟨q242, hl139, rfl, _⟩ := hr_ 3 (by decide) (hw_ 3 (by kernel_rfl))
                        replace hl139 : Gk.look F_ 139 = some (.slice oa96 y94.1.length c97) := hl139
                        obtain ⟨q243, hl140, rfl, _⟩ := hr_ 4 (by decide) (hw_ 4 (by kernel_rfl))
                        replace hl140 : Gk.look F_ 140 = some (.int .i64 y94.2) := hl140
                        obtain ⟨q244, hl138, rfl, _⟩ := hr_ 2 (by decide) (hw_ 2 (by kernel_rfl))
                        replace hl138 : Gk.look F_ 138 = some (.bool x232) := hl138
                        refine LW.indexO (bnd_ret hx_x249) o98 kSl_22 (ws 138 rfl (bk hl138 hb234)) rfl hl139 hl140 ?_; intro x_ p245 cs246 hx_ hr247 ha248 he250 hp251; cases hx_
                        obtain ⟨oa252, c253, oa255, c256, rfl, s254, s257, _⟩ := hr247
                        refine LW.nil ?_; intro a_ ha_
                        exact ⟨rfl, _, _, ha_, ⟨p245, oa252, c253, oa255, c256, rfl, ha248, s254, s257, trivial⟩, Ke.refl, cx, s6, s9, b14, o98, trivial⟩
                      · intro o_ L_ F_ lab_ w_ ho_ hL_ hw_ hcl_ hb_ hr_ hq_; obtain rfl := Option.some.inj (ho_ : some _ = some o_); obtain ⟨cx, s6, s9, b14, o98, _⟩ := hq_
                        obtain ⟨q266, hl141, p258, oa260, c261, oa263, c264, rfl, ha259, s262, s265, _⟩ := hr_ 5 (by decide) (hw_ 5 (by kernel_rfl))
                        replace hl141 : Gk.look F_ 141 = some (.pointer (some p258)) := hl141
                        obtain ⟨q267, hl138, rfl, _⟩ := hr_ 2 (by decide) (hw_ 2 (by kernel_rfl))
                        replace hl138 : Gk.look F_ 138 = some (.bool x232) := hl138
                        refine LW.fldA kFld_63_2 (ws 138 rfl (bk hl138 hb234)) rfl hl141 ?_
                        refine LW.nil ?_; intro a_ ha_
                        exact ⟨rfl, _, _, ha_, ⟨p258, oa260, c261, oa263, c264, rfl, ha259, s262, s265, trivial⟩, Ke.refl, cx, s6, s9, b14, o98, trivial⟩
                      · intro o_ L_ F_ lab_ w_ ho_ hL_ hw_ hcl_ hb_ hr_ hq_; obtain rfl := Option.some.inj (ho_ : some _ = some o_); obtain ⟨cx, s6, s9, b14, o98, _⟩ := hq_
                        obtain ⟨q276, hl142, p268, oa270, c271, oa273, c274, rfl, ha269, s272, s275, _⟩ := hr_ 6 (by decide) (hw_ 6 (by kernel_rfl))
                        replace hl142 : Gk.look F_ 142 = some (.pointer (some (p268.add 2))) := hl142
                        obtain ⟨q277, hl138, rfl, _⟩ := hr_ 2 (by decide) (hw_ 2 (by kernel_rfl))
                        replace hl138 : Gk.look F_ 138 = some (.bool x232) := hl138
                        refine LW.loadA1 (ha269.cell 2 rfl) kOne_24 (ws 138 rfl (bk hl138 hb234)) rfl hl142 ?_
                        refine LW.nil ?_; intro a_ ha_
                        exact ⟨rfl, _, _, ha_, ⟨oa273, c274, rfl, s275, trivial⟩, Ke.refl, cx, s6, s9, b14, o98, trivial⟩
                      · intro o_ L_ F_ lab_ w_ ho_ hL_ hw_ hcl_ hb_ hr_ hq_; obtain rfl := Option.some.inj (ho_ : some _ = some o_); obtain ⟨cx, s6, s9, b14, o98, _⟩ := hq_
                        obtain ⟨q281, hl143, oa278, c279, rfl, s280, _⟩ := hr_ 7 (by decide) (hw_ 7 (by kernel_rfl))
                        replace hl143 : Gk.look F_ 143 = some (.slice oa278 x249.Data.length c279) := hl143
                        obtain ⟨q282, hl138, rfl, _⟩ := hr_ 2 (by decide) (hw_ 2 (by kernel_rfl))
                        replace hl138 : Gk.look F_ 138 = some (.bool x232) := hl138
                        refine LW.len kUnd_24 (ws 138 rfl (bk hl138 hb234)) rfl hl143 ?_
                        refine LW.nil ?_; intro a_ ha_
                        exact ⟨rfl, _, _, ha_, ⟨rfl, trivial⟩, Ke.refl, cx, s6, s9, b14, o98, trivial⟩
                      · intro o_ L_ F_ lab_ w_ ho_ hL_ hw_ hcl_ hb_ hr_ hq_; obtain rfl := Option.some.inj (ho_ : some _ = some o_); obtain ⟨cx, s6, s9, b14, o98, _⟩ := hq_
                        have hl9 := hb_ 9 _ rfl
                        obtain ⟨q283, hl138, rfl, _⟩ := hr_ 2 (by decide) (hw_ 2 (by kernel_rfl))
                        replace hl138 : Gk.look F_ 138 = some (.bool x232) := hl138
                        refine LW.fldB 0 kFld_26_0 rfl (ws 138 rfl (bk hl138 hb234)) rfl hl9 ?_
                        refine LW.nil ?_; intro a_ ha_
                        exact ⟨rfl, _, _, ha_, ⟨rfl, trivial⟩, Ke.refl, cx, s6, s9, b14, o98, trivial⟩
                      · intro o_ L_ F_ lab_ w_ ho_ hL_ hw_ hcl_ hb_ hr_ hq_; obtain rfl := Option.some.inj (ho_ : some _ = some o_); obtain ⟨cx, s6, s9, b14, o98, _⟩ := hq_
                        obtain ⟨q284, hl145, rfl, _⟩ := hr_ 9 (by decide) (hw_ 9 (by kernel_rfl))
                        replace hl145 : Gk.look F_ 145 = some (.pointer (some ⟨g10, 0, none⟩)) := hl145
                        obtain ⟨q285, hl138, rfl, _⟩ := hr_ 2 (by decide) (hw_ 2 (by kernel_rfl))
                        replace hl138 : Gk.look F_ 138 = some (.bool x232) := hl138
                        refine LW.loadB1 b14 kOne_3 rfl (ws 138 rfl (bk hl138 hb234)) rfl hl145 ?_
                        refine LW.nil ?_; intro a_ ha_
                        exact ⟨rfl, _, _, ha_, ⟨rfl, trivial⟩, Ke.refl, cx, s6, s9, b14, o98, trivial⟩
                      · intro o_ L_ F_ lab_ w_ ho_ hL_ hw_ hcl_ hb_ hr_ hq_; obtain rfl := Option.some.inj (ho_ : some _ = some o_); obtain ⟨cx, s6, s9, b14, o98, _⟩ := hq_
                        have hl9 := hb_ 9 _ rfl
                        obtain ⟨q286, hl138, rfl, _⟩ := hr_ 2 (by decide) (hw_ 2 (by kernel_rfl))
                        replace hl138 : Gk.look F_ 138 = some (.bool x232) := hl138
                        refine LW.fldB 2 kFld_26_2 rfl (ws 138 rfl (bk hl138 hb234)) rfl hl9 ?_
                        refine LW.nil ?_; intro a_ ha_
                        exact ⟨rfl, _, _, ha_, ⟨rfl, trivial⟩, Ke.refl, cx, s6, s9, b14, o98, trivial⟩
                      · intro o_ L_ F_ lab_ w_ ho_ hL_ hw_ hcl_ hb_ hr_ hq_; obtain rfl := Option.some.inj (ho_ : some _ = some o_); obtain ⟨cx, s6, s9, b14, o98, _⟩ := hq_
                        obtain ⟨q287, hl147, rfl, _⟩ := hr_ 11 (by decide) (hw_ 11 (by kernel_rfl))
                        replace hl147 : Gk.look F_ 147 = some (.pointer (some ⟨g10, 2, none⟩)) := hl147
                        obtain ⟨q288, hl138, rfl, _⟩ := hr_ 2 (by decide) (hw_ 2 (by kernel_rfl))
                        replace hl138 : Gk.look F_ 138 = some (.bool x232) := hl138
                        refine LW.loadB1 b14 kOne_3 rfl (ws 138 rfl (bk hl138 hb234)) rfl hl147 ?_
                        refine LW.nil ?_; intro a_ ha_
                        exact ⟨rfl, _, _, ha_, ⟨rfl, trivial⟩, Ke.refl, cx, s6, s9, b14, o98, trivial⟩
                      · intro o_ L_ F_ lab_ w_ ho_ hL_ hw_ hcl_ hb_ hr_ hq_; obtain rfl := Option.some.inj (ho_ : some _ = some o_); obtain ⟨cx, s6, s9, b14, o98, _⟩ := hq_
                        obtain ⟨q289, hl148, rfl, _⟩ := hr_ 12 (by decide) (hw_ 12 (by kernel_rfl))
                        replace hl148 : Gk.look F_ 148 = some (.int .i64 a3.Size) := hl148
                        obtain ⟨q290, hl138, rfl, _⟩ := hr_ 2 (by decide) (hw_ 2 (by kernel_rfl))
                        replace hl138 : Gk.look F_ 138 = some (.bool x232) := hl138
                        refine LW.call kFn_35 (c_coresecref18_length hx_y291 cx.top) (ws 138 rfl (bk hl138 hb234)) rfl (evs_cons hl148 evs_nil) ?_
                        rintro _ w292 ⟨rfl, e293, _⟩; refine ⟨_, rfl, ?_⟩
                        replace cx := cx.step e293 rfl
                        replace s6 := s6.step e293
                        replace s9 := s9.step e293
                        replace b14 := b14.step e293 rfl
                        replace o98 := o98.step e293 rfl
                        refine LW.nil ?_; intro a_ ha_
                        exact ⟨rfl, _, _, ha_, ⟨rfl, trivial⟩, e293.ke0, cx, s6, s9, b14, o98, trivial⟩
                      · intro o_ L_ F_ lab_ w_ ho_ hL_ hw_ hcl_ hb_ hr_ hq_; obtain rfl := Option.some.inj (ho_ : some _ = some o_); obtain ⟨cx, s6, s9, b14, o98, _⟩ := hq_
                        obtain ⟨q295, hl146, rfl, _⟩ := hr_ 10 (by decide) (hw_ 10 (by kernel_rfl))
                        replace hl146 : Gk.look F_ 146 = some (.int .i64 a3.Num) := hl146
                        obtain ⟨q296, hl149, rfl, _⟩ := hr_ 13 (by decide) (hw_ 13 (by kernel_rfl))
                        replace hl149 : Gk.look F_ 149 = some (.int .i64 y291) := hl149
                        obtain ⟨q297, hl138, rfl, _⟩ := hr_ 2 (by decide) (hw_ 2 (by kernel_rfl))
                        replace hl138 : Gk.look F_ 138 = some (.bool x232) := hl138
                        refine LW.mul (letm_eq hx_x298) (ws 138 rfl (bk hl138 hb234)) rfl hl146 hl149 ?_; intro x_ hx_; cases hx_
                        refine LW.nil ?_; intro a_ ha_
                        exact ⟨rfl, _, _, ha_, ⟨rfl, trivial⟩, Ke.refl, cx, s6, s9, b14, o98, trivial⟩
                      · intro o_ L_ F_ lab_ w_ ho_ hL_ hw_ hcl_ hb_ hr_ hq_; obtain rfl := Option.some.inj (ho_ : some _ = some o_); obtain ⟨cx, s6, s9, b14, o98, _⟩ := hq_
                        obtain ⟨q299, hl144, rfl, _⟩ := hr_ 8 (by decide) (hw_ 8 (by kernel_rfl))
                        replace hl144 : Gk.look F_ 144 = some (.int .i64 (x249.Data.length : Int)) := hl144
                        obtain ⟨q300, hl150, rfl, _⟩ := hr_ 14 (by decide) (hw_ 14 (by kernel_rfl))
                        replace hl150 : Gk.look F_ 150 = some (.int .i64 x298) := hl150
                        obtain ⟨q301, hl138, rfl, _⟩ := hr_ 2 (by decide) (hw_ 2 (by kernel_rfl))
                        replace hl138 : Gk.look F_ 138 = some (.bool x232) := hl138
                        refine LW.neq (letm_eq hx_x302) (ws 138 rfl (bk hl138 hb234)) rfl hl144 hl150 ?_; intro x_ hx_; cases hx_
                        refine LW.nil ?_; intro a_ ha_
                        exact ⟨rfl, _, _, ha_, ⟨rfl, trivial⟩, Ke.refl, cx, s6, s9, b14, o98, trivial⟩
                      · intro o_ L_ F_ lab_ w_ ho_ hL_ hw_ hcl_ hb_ hr_ hq_; obtain rfl := Option.some.inj (ho_ : some _ = some o_); obtain ⟨cx, s6, s9, b14, o98, _⟩ := hq_
                        obtain ⟨q303, hl138, rfl, _⟩ := hr_ 2 (by decide) (hw_ 2 (by kernel_rfl))
                        replace hl138 : Gk.look F_ 138 = some (.bool x232) := hl138
                        obtain ⟨q304, hl151, rfl, _⟩ := hr_ 15 (by decide) (hw_ 15 (by kernel_rfl))
                        replace hl151 : Gk.look F_ 151 = some (.bool x302) := hl151
                        refine LW.pick_f wn rfl (bk hl138 hb234) hl151 ?_
                        refine LW.nil ?_; intro a_ ha_
                        exact ⟨rfl, _, _, ha_, ⟨rfl, trivial⟩, Ke.refl, cx, s6, s9, b14, o98, trivial⟩
                    · intro F_ lab_ w_ hb_ hr_ hq_; obtain ⟨cx, s6, s9, b14, o98, _⟩ := hq_
                      obtain ⟨q307, hl152, rfl, _⟩ := hr_ 16 (by decide)
                      refine LW.sub (G := [(1, .int .i64 a1), (2, .slice oa4 a2.length c5), (4, .slice oa7 a4.length c8), (5, .int .i64 a5), (9, .pointer (some ⟨g10, 0, none⟩)), (17, .slice oa96 y94.1.length c97), (18, .int .i64 y94.2), (152, .bool x302)]) ⟨hb_ 1 _ rfl, hb_ 2 _ rfl, hb_ 4 _ rfl, hb_ 5 _ rfl, hb_ 9 _ rfl, hb_ 17 _ rfl, hb_ 18 _ rfl, hl152, trivial⟩ ?_
                      simp only [List.drop_succ_cons, List.drop_nil, List.drop_zero]
                      refine LW.nil ?_
                      obtain rfl := Option.some.inj hm
                      refine EW.sub (G := [(1, .int .i64 a1), (2, .slice oa4 a2.length c5), (4, .slice oa7 a4.length c8), (5, .int .i64 a5), (9, .pointer (some ⟨g10, 0, none⟩)), (17, .slice oa96 y94.1.length c97), (18, .int .i64 y94.2), (152, .bool x302)]) ⟨rfl, rfl, rfl, rfl, rfl, rfl, rfl, rfl, trivial⟩ ?_
                      exact EW.join_n ⟨_, rfl, cx, s6, s9, b14, o98, trivial⟩
                · rintro _ w229 ⟨lab230, rfl, cx, s6, s9, b14, o98, _⟩
                  have hm := hm_; clear hm_
                  refine EW.seq_n ?_
                  refine CW.cond (b := y227) rfl (fun hb308 => ?_) (fun hb308 => ?_)
                  · replace hm := cond_t hm hb308
                    refine CW.seq ?_
                    refine CW.region ?_
                    refine LW.assign wn rfl rfl ?_
                    refine LW.assign wn rfl rfl ?_
                    refine LW.assign wn rfl rfl ?_
                    refine LW.assign wn rfl rfl ?_
                    refine LW.nil ?_
                    refine EW.seq_n ?_
                    refine CW.ret ?_
                    refine EW.seq_r ?_
                    refine EW.join_r ?_
                    obtain rfl := Option.some.inj hm; have hm := hs219 _ rfl
                    refine EW.seq_r ?_
                    obtain rfl := Option.some.inj hm
                    exact EW.rets (vs := [.slice none 0 0, .slice none 0 0, .bool false, .int .i64 15]) rfl ⟨rfl, rfl, rfl, rfl, trivial⟩ rfl ⟨none, 0, none, 0, rfl, (cx.ste t), SL.nil, SL.nil, trivial⟩
                  · replace hm := cond_f hm hb308
                    refine CW.skip ?_
                    refine EW.seq_n ?_
                    refine CW.region ?_
                    refine LW.move wn rfl rfl ?_
                    refine LW.move wn rfl rfl ?_
                    refine LW.indexO hm o98 kSl_22 wn rfl rfl rfl ?_; clear hm; intro x313 p309 cs310 hm hr311 ha312 he314 hp315
                    obtain ⟨oa316, c317, oa319, c320, rfl, s318, s321, _⟩ := hr311
                    refine LW.fldA kFld_63_2 wn rfl rfl ?_
                    refine LW.loadA1 (ha312.cell 2 rfl) kOne_24 wn rfl rfl ?_
                    refine LW.append (ρ := Rep.u8) (xs := ([] : List UInt8)) (ys := x313.Data) hm (Own.nil (k := 32)) (SL.flat' (lab := _) (c := c320) s321) cx.top rfl kSl_24 rfl wn rfl rfl rfl ?_; clear hm; intro x322 oa323 c324 lab325 w326 hm e327 o328
                    replace cx := cx.step e327 rfl
                    replace s6 := s6.step e327
                    replace s9 := s9.step e327
                    replace b14 := b14.step e327 rfl
                    replace o98 := o98.step e327 rfl
                    replace s318 := s318.step e327
                    replace s321 := s321.step e327
                    clear e327
                    refine LW.assign wn rfl rfl ?_
                    refine LW.nil ?_
                    obtain rfl := Option.some.inj hm
                    refine EW.sub (G := [(1, .int .i64 a1), (2, .slice oa4 a2.length c5), (4, .slice oa7 a4.length c8), (5, .int .i64 a5), (9, .pointer (some ⟨g10, 0, none⟩)), (17, .slice oa96 y94.1.length c97), (18, .int .i64 y94.2), (22, .slice oa323 x322.length c324)]) ⟨rfl, rfl, rfl, rfl, rfl, rfl, rfl, rfl, trivial⟩ ?_
                    exact EW.join_n ⟨x322, _, oa323, c324, rfl, rfl, cx, s6, s9, b14, o98, o328, trivial⟩
              · replace hm := cond_f hm hb226
                refine CW.skip ?_
                obtain rfl := Option.some.inj hm
                refine EW.sub (G := [(1, .int .i64 a1), (2, .slice oa4 a2.length c5), (4, .slice oa7 a4.length c8), (5, .int .i64 a5), (9, .pointer (some ⟨g10, 0, none⟩)), (17, .slice oa96 y94.1.length c97), (18, .int .i64 y94.2), (22, .slice none ([] : List UInt8).length 0)]) ⟨rfl, rfl, rfl, rfl, rfl, rfl, rfl, rfl, trivial⟩ ?_
                exact EW.join_n ⟨[], _, none, 0, rfl, rfl, cx, s6, s9, b14, o98, Own.nil, trivial⟩
            · rintro _ w224 ⟨y216, lab225, oa221, c222, hsr_, rfl, cx, s6, s9, b14, o98, o223, _⟩
              have hm := hs220 _ hsr_; clear hsr_
              refine EW.seq_n ?_
              refine CW.seq ?_
              refine CW.region ?_
              refine LW.move wn rfl rfl ?_
              refine LW.move wn rfl rfl ?_
              refine LW.append (ρ := Rep.u8) (xs := y216) (ys := a4) hm o223 (SL.flat' (lab := _) (c := c8) s9) cx.top rfl kSl_24 rfl wn rfl rfl rfl ?_; clear hm; intro x329 oa330 c331 lab332 w333 hm e334 o335
              replace cx := cx.step e334 rfl
              replace s6 := s6.step e334
              replace s9 := s9.step e334
              replace b14 := b14.step e334 rfl
              replace o98 := o98.step e334 rfl
              clear e334
              refine LW.assign wn rfl rfl ?_
              refine LW.nil ?_
              refine EW.seq_n ?_
              refine CW.seq ?_
              refine CW.block ?_
              refine CW.seq ?_
              refine CW.region ?_
              refine LW.move wn rfl rfl ?_
              refine LW.len kUnd_24 wn rfl rfl ?_
              refine LW.gtr hm wn rfl rfl rfl ?_; clear hm; intro x336 hm
              refine LW.assign wn rfl rfl ?_
              refine LW.nil ?_
              refine EW.seq_n ?_
              refine CW.cond (b := x336) rfl (fun hb337 => ?_) (fun hb337 => ?_)
              · replace hm := cond_t hm hb337
                refine CW.seq ?_
                refine CW.region ?_
                refine LW.assign wn rfl rfl ?_
                refine LW.assign wn rfl rfl ?_
                refine LW.assign wn rfl rfl ?_
                refine LW.assign wn rfl rfl ?_
                refine LW.nil ?_
                refine EW.seq_n ?_
                refine CW.ret ?_
                refine EW.block_r ?_
                refine EW.seq_r ?_
                obtain rfl := Option.some.inj hm
                exact EW.rets (vs := [.slice none 0 0, .slice none 0 0, .bool false, .int .i64 8]) rfl ⟨rfl, rfl, rfl, rfl, trivial⟩ rfl ⟨none, 0, none, 0, rfl, (cx.ste t), SL.nil, SL.nil, trivial⟩
              · replace hm := cond_f hm hb337
                refine CW.seq ?_
                obtain ⟨y338, h339, hm_⟩ := bnd_some hm; clear hm
                refine CW.join_any (fun F_ w340 => ∃ (lab341 : Lab) , F_ = [(1, .int .i64 a1), (2, .slice oa4 a2.length c5), (5, .int .i64 a5), (9, .pointer (some ⟨g10, 0, none⟩)), (17, .slice oa96 y94.1.length c97), (18, .int .i64 y94.2), (22, .slice oa330 x329.length c331), (166, .bool y338)] ∧ Cx [] w lab w340 lab341 ∧ SL Rep.u8 lab341 w340 oa4 c5 a2 ∧ Box lab341 w340 19 g10 26 [.int .i64 a3.Num, .bool a3.More, .int .i64 a3.Size] ∧ Own R_api_Partial lab341 w340 27 63 oa96 c97 y94.1 ∧ Own Rep.u8 lab341 w340 32 5 oa330 c331 x329 ∧ True) ?_ ?_
                · have hm := h339; clear h339
                  refine CW.region ?_
                  refine LW.fldB 1 kFld_26_1 rfl wn rfl rfl ?_
                  refine LW.loadB1 b14 kOne_4 rfl wn rfl rfl ?_
                  refine LW.not hm wn rfl rfl ?_; clear hm; intro x342 hm
                  refine LW.move wn rfl rfl ?_
                  rcases Bool.eq_false_or_eq_true x342 with hb344 | hb344
                  · replace hm := cond_t hm hb344
                    refine LW.move (ws 170 rfl (bk rfl hb344)) rfl rfl ?_
                    refine LW.geq hm (ws 170 rfl (bk rfl hb344)) rfl rfl rfl ?_; clear hm; intro x345 hm
                    refine LW.pick_t wn rfl (bk rfl hb344) rfl ?_
                    refine LW.assign wn rfl rfl ?_
                    refine LW.nil ?_
                    obtain rfl := Option.some.inj hm
                    refine EW.sub (G := [(1, .int .i64 a1), (2, .slice oa4 a2.length c5), (5, .int .i64 a5), (9, .pointer (some ⟨g10, 0, none⟩)), (17, .slice oa96 y94.1.length c97), (18, .int .i64 y94.2), (22, .slice oa330 x329.length c331), (166, .bool x345)]) ⟨rfl, rfl, rfl, rfl, rfl, rfl, rfl, rfl, trivial⟩ ?_
                    exact EW.join_n ⟨_, rfl, cx, s6, b14, o98, o335, trivial⟩
                  · replace hm := cond_f hm hb344
                    refine LW.skip 170 rfl (bk rfl hb344) rfl rfl ?_
                    refine LW.skip 170 rfl (bk rfl hb344) rfl rfl ?_
                    refine LW.pick_f wn rfl (bk rfl hb344) rfl ?_
                    refine LW.assign wn rfl rfl ?_
                    refine LW.nil ?_
                    obtain rfl := Option.some.inj hm
                    refine EW.sub (G := [(1, .int .i64 a1), (2, .slice oa4 a2.length c5), (5, .int .i64 a5), (9, .pointer (some ⟨g10, 0, none⟩)), (17, .slice oa96 y94.1.length c97), (18, .int .i64 y94.2), (22, .slice oa330 x329.length c331), (166, .bool false)]) ⟨rfl, rfl, rfl, rfl, rfl, rfl, rfl, rfl, trivial⟩ ?_
                    exact EW.join_n ⟨_, rfl, cx, s6, b14, o98, o335, trivial⟩
                · rintro _ w340 ⟨lab341, rfl, cx, s6, b14, o98, o335, _⟩
                  have hm := hm_; clear hm_
                  refine EW.seq_n ?_
                  refine CW.cond (b := y338) rfl (fun hb346 => ?_) (fun hb346 => ?_)
                  · replace hm := cond_t hm hb346
                    refine CW.seq ?_
                    obtain ⟨x349, hx_x349, hm_⟩ := bnd_some hm; clear hm; have hm := hm_; clear hm_
                    obtain ⟨x353, hx_x353, hm_⟩ := bnd_some hm; clear hm; have hm := hm_; clear hm_
                    obtain ⟨x361, hx_x361, hm_⟩ := letm_some hm; clear hm; have hm := hm_; clear hm_
                    obtain ⟨x364, hx_x364, hm_⟩ := bnd_some hm; clear hm; have hm := hm_; clear hm_
                    obtain ⟨x376, hx_x376, hm_⟩ := bnd_some hm; clear hm; have hm := hm_; clear hm_
                    refine CW.sub (G := [(17, .slice oa96 y94.1.length c97), (18, .int .i64 y94.2), (22, .slice oa330 x329.length c331)]) ⟨rfl, rfl, rfl, trivial⟩ ?_
                    refine CW.drawL (fun i_ => if i_ = 3 then [22] else if i_ = 8 then [22] else []) (fun i_ => by (try dsimp only); (repeat' split) <;> rfl) kMix_ 11 (by kernel_rfl) cx.top ?_
                    intro w387 e388
                    replace cx := cx.step e388 rfl
                    replace o98 := o98.step e388 rfl
                    replace o335 := o335.step e388 rfl
                    clear e388
                    refine ⟨[(fun L_ lab_ w_ v_ => v_ = .slice oa96 y94.1.length c97 ∧ True),
    (fun L_ lab_ w_ v_ => v_ = .int .i64 y94.2 ∧ True),
    (fun L_ lab_ w_ v_ => v_ = .slice oa96 x349.length c97 ∧ Own R_api_Partial lab_ w_ 27 63 oa96 c97 x349 ∧ True),
    (fun L_ lab_ w_ v_ => L_ 8 = true ∨ (∃ (oa354 : Option Addr) (c355 : Nat), v_ = .slice oa354 x353.length c355 ∧ Own R_api_Partial lab_ w_ 22 63 oa354 c355 x353 ∧ True)),
    (fun L_ lab_ w_ v_ => v_ = .slice oa96 y94.1.length c97 ∧ True),
    (fun L_ lab_ w_ v_ => v_ = .int .i64 y94.2 ∧ True),
    (fun L_ lab_ w_ v_ => v_ = .int .i64 x361 ∧ True),
    (fun L_ lab_ w_ v_ => L_ 8 = true ∨ (∃ (oa366 : Option Addr) (c367 : Nat), v_ = .slice oa366 x364.length c367 ∧ FlatO R_api_Partial lab_ w_ 27 oa366 x364 ∧ True)),
    (fun L_ lab_ w_ v_ => ∃ (oa377 : Option Addr) (c378 : Nat), v_ = .slice oa377 x376.length c378 ∧ Own R_api_Partial lab_ w_ 22 63 oa377 c378 x376 ∧ True),
    (fun L_ lab_ w_ v_ => v_ = .slice oa330 x329.length c331 ∧ True),
    (fun L_ lab_ w_ v_ => ∃ (oa383 : Option Addr) (c384 : Nat), v_ = .slice oa383 x376.length c384 ∧ Own R_api_Partial lab_ w_ 22 63 oa383 c384 x376 ∧ True)], (fun L_ lab_ w_ => Cx [] w lab w_ lab_ ∧ Own R_api_Partial lab_ w_ 27 63 oa96 c97 y94.1 ∧ Own Rep.u8 lab_ w_ 32 5 oa330 c331 x329 ∧ True), ?_, ⟨cx, o98, o335, trivial⟩, ?_, ?_⟩
                    · exact ⟨by rintro i_ L_ lab_ w_ lab2_ w2_ v_ hne_ hd_ hk_ hp_ ⟨hv_, _⟩; exact ⟨hv_, trivial⟩, by rintro i_ L_ lab_ w_ lab2_ w2_ v_ hne_ hd_ hk_ hp_ ⟨hv_, _⟩; exact ⟨hv_, trivial⟩, by rintro i_ L_ lab_ w_ lab2_ w2_ v_ hne_ hd_ hk_ hp_ ⟨hv_, o350, _⟩; exact ⟨hv_, (o350.ke hk_ (by (try dsimp only); (repeat' split) <;> first | rfl | contradiction) (by (try dsimp only); (repeat' split) <;> first | rfl | contradiction)), trivial⟩, by
                          rintro i_ L_ lab_ w_ lab2_ w2_ v_ hne_ hd_ hk_ hp_ (h_ | ⟨oa354, c355, hv_, o359, _⟩)
                          · exact .inl (upd_of h_)
                          · by_cases hi_ : i_ = 8
                            · subst hi_; exact .inl upd_self
                            · exact .inr ⟨oa354, c355, hv_, (o359.ke hk_ (by (try dsimp only); (repeat' split) <;> first | rfl | contradiction) (by (try dsimp only); (repeat' split) <;> first | rfl | contradiction)), trivial⟩, by rintro i_ L_ lab_ w_ lab2_ w2_ v_ hne_ hd_ hk_ hp_ ⟨hv_, _⟩; exact ⟨hv_, trivial⟩, by rintro i_ L_ lab_ w_ lab2_ w2_ v_ hne_ hd_ hk_ hp_ ⟨hv_, _⟩; exact ⟨hv_, trivial⟩, by rintro i_ L_ lab_ w_ lab2_ w2_ v_ hne_ hd_ hk_ hp_ ⟨hv_, _⟩; exact ⟨hv_, trivial⟩, by
                          rintro i_ L_ lab_ w_ lab2_ w2_ v_ hne_ hd_ hk_ hp_ (h_ | ⟨oa366, c367, hv_, f365, _⟩)
                          · exact .inl (upd_of h_)
                          · by_cases hi_ : i_ = 8
                            · subst hi_; exact .inl upd_self
                            · exact .inr ⟨oa366, c367, hv_, (f365.ke hk_ (by (try dsimp only); (repeat' split) <;> first | rfl | contradiction) (by (try dsimp only); (repeat' split) <;> first | rfl | contradiction)), trivial⟩, by
                          rintro i_ L_ lab_ w_ lab2_ w2_ v_ hne_ hd_ hk_ hp_ ⟨oa377, c378, hv_, o382, _⟩
                          by_cases hw3_ : i_ = 3
                          · subst hw3_; exact (hd_.no [] (by kernel_rfl)).elim
                          exact ⟨oa377, c378, hv_, (o382.ke hk_ (by (try dsimp only); (repeat' split) <;> first | rfl | contradiction) (by (try dsimp only); (repeat' split) <;> first | rfl | contradiction)), trivial⟩, by rintro i_ L_ lab_ w_ lab2_ w2_ v_ hne_ hd_ hk_ hp_ ⟨hv_, _⟩; exact ⟨hv_, trivial⟩, by
                          rintro i_ L_ lab_ w_ lab2_ w2_ v_ hne_ hd_ hk_ hp_ ⟨oa383, c384, hv_, s385, _⟩
                          by_cases hw3_ : i_ = 3
                          · subst hw3_; exact (hd_.no [] (by kernel_rfl)).elim
                          by_cases hw8_ : i_ = 8
                          · subst hw8_; exact (hd_.no [] (by kernel_rfl)).elim
                          exact ⟨oa383, c384, hv_, (s385.ke hk_ (by (try dsimp only); (repeat' split) <;> first | rfl | contradiction) (by (try dsimp only); (repeat' split) <;> first | rfl | contradiction)), trivial⟩, trivial⟩
                    · refine (ob_succ (ob_succ (ob_succ (ob_succ (ob_succ (ob_succ (ob_succ (ob_succ (ob_succ (ob_succ (ob_succ ob_nil ?_) ?_) ?_) ?_) ?_) ?_) ?_) ?_) ?_) ?_) ?_)
                      · exact ob_moveb (v := .slice oa96 y94.1.length c97) rfl (fun _ h_ => h_ _ _ rfl) rfl (fun _ _ _ => ⟨rfl, trivial⟩) (fun _ _ _ h_ => h_)
                      · exact ob_moveb (v := .int .i64 y94.2) rfl (fun _ h_ => h_ _ _ rfl) rfl (fun _ _ _ => ⟨rfl, trivial⟩) (fun _ _ _ h_ => h_)
                      · intro o_ L_ F_ lab_ w_ ho_ hL_ hw_ hcl_ hb_ hr_ hq_; obtain rfl := Option.some.inj (ho_ : some _ = some o_); obtain ⟨cx, o98, o335, _⟩ := hq_
                        obtain ⟨q347, hl174, rfl, _⟩ := hr_ 0 (by decide) (hw_ 0 (by kernel_rfl))
                        replace hl174 : Gk.look F_ 174 = some (.slice oa96 y94.1.length c97) := hl174
                        obtain ⟨q348, hl175, rfl, _⟩ := hr_ 1 (by decide) (hw_ 1 (by kernel_rfl))
                        replace hl175 : Gk.look F_ 175 = some (.int .i64 y94.2) := hl175
                        refine LW.slice_hO (bnd_ret hx_x349) o98 kSl_22 wn rfl hl174 hl175 ?_; intro x_ hx_ o350; cases hx_
                        refine LW.nil ?_; intro a_ ha_
                        exact ⟨rfl, _, _, ha_, ⟨rfl, o350, trivial⟩, Ke.refl, cx, o98, o335, trivial⟩
                      · intro o_ L_ F_ lab_ w_ ho_ hL_ hw_ hcl_ hb_ hr_ hq_; obtain rfl := Option.some.inj (ho_ : some _ = some o_); obtain ⟨cx, o98, o335, _⟩ := hq_
                        obtain ⟨q352, hl176, rfl, s351, _⟩ := hr_ 2 (by decide) (hw_ 2 (by kernel_rfl))
                        replace hl176 : Gk.look F_ 176 = some (.slice oa96 x349.length c97) := hl176
                        refine LW.append (ρ := R_api_Partial) (xs := ([] : List S_api_Partial)) (ys := x349) (bnd_ret hx_x353) (Own.nil (k := 22)) s351.flat cx.top rfl kSl_22 rfl wn rfl rfl hl176 ?_; intro x_ oa354 c355 lab356 w357 hx_ e358 o359; cases hx_
                        replace cx := cx.step e358 rfl
                        replace o98 := o98.step e358 rfl
                        replace o335 := o335.step e358 rfl
                        replace s351 := s351.step e358 rfl
                        refine LW.nil ?_; intro a_ ha_
                        exact ⟨rfl, _, _, ha_, .inr ⟨oa354, c355, rfl, o359, trivial⟩, (e358.ke rfl), cx, o98, o335, trivial⟩
                      · exact ob_moveb (v := .slice oa96 y94.1.length c97) rfl (fun _ h_ => h_ _ _ rfl) rfl (fun _ _ _ => ⟨rfl, trivial⟩) (fun _ _ _ h_ => h_)
                      · exact ob_moveb (v := .int .i64 y94.2) rfl (fun _ h_ => h_ _ _ rfl) rfl (fun _ _ _ => ⟨rfl, trivial⟩) (fun _ _ _ h_ => h_)
                      · intro o_ L_ F_ lab_ w_ ho_ hL_ hw_ hcl_ hb_ hr_ hq_; obtain rfl := Option.some.inj (ho_ : some _ = some o_); obtain ⟨cx, o98, o335, _⟩ := hq_
                        obtain ⟨q360, hl179, rfl, _⟩ := hr_ 5 (by decide) (hw_ 5 (by kernel_rfl))
                        replace hl179 : Gk.look F_ 179 = some (.int .i64 y94.2) := hl179
                        refine LW.add (letm_eq hx_x361) wn rfl hl179 rfl ?_; intro x_ hx_; cases hx_
                        refine LW.nil ?_; intro a_ ha_
                        exact ⟨rfl, _, _, ha_, ⟨rfl, trivial⟩, Ke.refl, cx, o98, o335, trivial⟩
                      · intro o_ L_ F_ lab_ w_ ho_ hL_ hw_ hcl_ hb_ hr_ hq_; obtain rfl := Option.some.inj (ho_ : some _ = some o_); obtain ⟨cx, o98, o335, _⟩ := hq_
                        obtain ⟨q362, hl178, rfl, _⟩ := hr_ 4 (by decide) (hw_ 4 (by kernel_rfl))
                        replace hl178 : Gk.look F_ 178 = some (.slice oa96 y94.1.length c97) := hl178
                        obtain ⟨q363, hl180, rfl, _⟩ := hr_ 6 (by decide) (hw_ 6 (by kernel_rfl))
                        replace hl180 : Gk.look F_ 180 = some (.int .i64 x361) := hl180
                        refine LW.slice_lO (bnd_ret hx_x364) o98 kSl_22 wn rfl hl178 hl180 ?_; intro x_ oa366 c367 hx_ f365; cases hx_
                        refine LW.nil ?_; intro a_ ha_
                        exact ⟨rfl, _, _, ha_, .inr ⟨oa366, c367, rfl, f365, trivial⟩, Ke.refl, cx, o98, o335, trivial⟩
                      · intro o_ L_ F_ lab_ w_ ho_ hL_ hw_ hcl_ hb_ hr_ hq_; obtain rfl := Option.some.inj (ho_ : some _ = some o_); obtain ⟨cx, o98, o335, _⟩ := hq_
                        obtain ⟨q371, hl177, hR_⟩ := hr_ 3 (by decide) (hw_ 3 (by kernel_rfl))
                        rcases hR_ with hR_ | ⟨oa368, c369, rfl, s370, _⟩
                        · rw [hL_] at hR_; cases hR_
                        replace hl177 : Gk.look F_ 177 = some (.slice oa368 x353.length c369) := hl177
                        obtain ⟨q375, hl181, hR_⟩ := hr_ 7 (by decide) (hw_ 7 (by kernel_rfl))
                        rcases hR_ with hR_ | ⟨oa372, c373, rfl, s374, _⟩
                        · rw [hL_] at hR_; cases hR_
                        replace hl181 : Gk.look F_ 181 = some (.slice oa372 x364.length c373) := hl181
                        refine LW.append (ρ := R_api_Partial) (xs := x353) (ys := x364) (bnd_ret hx_x376) s370 s374.flat cx.top rfl kSl_22 rfl wn rfl hl177 hl181 ?_; intro x_ oa377 c378 lab379 w380 hx_ e381 o382; cases hx_
                        replace cx := cx.step e381 rfl
                        replace o98 := o98.step e381 rfl
                        replace o335 := o335.step e381 rfl
                        refine LW.nil ?_; intro a_ ha_
                        exact ⟨rfl, _, _, ha_, ⟨oa377, c378, rfl, o382, trivial⟩, (e381.ke rfl), cx, o98, o335, trivial⟩
                      · exact ob_moveb (v := .slice oa330 x329.length c331) rfl (fun _ h_ => h_ _ _ rfl) rfl (fun _ _ _ => ⟨rfl, trivial⟩) (fun _ _ _ h_ => h_)
                      · intro o_ L_ F_ lab_ w_ ho_ hL_ hw_ hcl_ hb_ hr_ hq_; obtain rfl := Option.some.inj (ho_ : some _ = some o_); obtain ⟨cx, o98, o335, _⟩ := hq_
                        obtain ⟨q386, hl182, oa383, c384, rfl, s385, _⟩ := hr_ 8 (by decide) (hw_ 8 (by kernel_rfl))
                        replace hl182 : Gk.look F_ 182 = some (.slice oa383 x376.length c384) := hl182
                        refine LW.assign wn rfl hl182 ?_
                        refine LW.nil ?_; intro a_ ha_
                        exact ⟨rfl, _, _, ha_, ⟨oa383, c384, rfl, s385, trivial⟩, Ke.refl, cx, o98, o335, trivial⟩
                    · intro F_ lab_ w_ hb_ hr_ hq_; obtain ⟨cx, o98, o335, _⟩ := hq_
                      obtain ⟨q389, hl183, rfl, _⟩ := hr_ 9 (by decide)
                      obtain ⟨q393, hl12, oa390, c391, rfl, s392, _⟩ := hr_ 10 (by decide)
                      refine LW.sub (G := [(17, .slice oa96 y94.1.length c97), (18, .int .i64 y94.2), (22, .slice oa330 x329.length c331), (183, .slice oa330 x329.length c331), (12, .slice oa390 x376.length c391)]) ⟨hb_ 17 _ rfl, hb_ 18 _ rfl, hb_ 22 _ rfl, hl183, hl12, trivial⟩ ?_
                      simp only [List.drop_succ_cons, List.drop_zero]
                      refine LW.assign wn rfl rfl ?_
                      refine LW.assign wn rfl rfl ?_
                      refine LW.assign wn rfl rfl ?_
                      refine LW.nil ?_
                      refine EW.seq_n ?_
                      refine CW.ret ?_
                      refine EW.block_r ?_
                      refine EW.seq_r ?_
                      obtain rfl := Option.some.inj hm
                      exact EW.rets (vs := [.slice oa390 x376.length c391, .slice oa330 x329.length c331, .bool true, .int .i64 0]) rfl ⟨rfl, rfl, rfl, rfl, trivial⟩ rfl ⟨oa390, c391, oa330, c331, rfl, (cx.ste t), (s392.sl (cx.keeps t) (cx.own0 t rfl)), (o335.sl (cx.keeps t) (cx.own0 t rfl)), trivial⟩
                  · replace hm := cond_f hm hb346
                    refine CW.seq ?_
                    refine CW.region ?_
                    refine LW.fldB 1 kFld_26_1 rfl wn rfl rfl ?_
                    refine LW.loadB1 b14 kOne_4 rfl wn rfl rfl ?_
                    refine LW.not hm wn rfl rfl ?_; clear hm; intro x394 hm
                    refine LW.assign wn rfl rfl ?_
                    refine LW.nil ?_
                    refine EW.seq_n ?_
                    refine CW.cond (b := x394) rfl (fun hb395 => ?_) (fun hb395 => ?_)
                    · replace hm := cond_t hm hb395
                      refine CW.seq ?_
                      refine CW.region ?_
                      refine LW.move wn rfl rfl ?_
                      refine LW.move wn rfl rfl ?_
                      refine LW.assign wn rfl rfl ?_
                      refine LW.assign wn rfl rfl ?_
                      refine LW.assign wn rfl rfl ?_
                      refine LW.assign wn rfl rfl ?_
                      refine LW.nil ?_
                      refine EW.seq_n ?_
                      refine CW.ret ?_
                      refine EW.block_r ?_
                      refine EW.seq_r ?_
                      obtain rfl := Option.some.inj hm
                      exact EW.rets (vs := [.slice oa96 y94.1.length c97, .slice oa330 x329.length c331, .bool true, .int .i64 0]) rfl ⟨rfl, rfl, rfl, rfl, trivial⟩ rfl ⟨oa96, c97, oa330, c331, rfl, (cx.ste t), (o98.sl (cx.keeps t) (cx.own0 t rfl)), (o335.sl (cx.keeps t) (cx.own0 t rfl)), trivial⟩
                    · replace hm := cond_f hm hb395
                      refine CW.seq ?_
                      obtain ⟨y396, h397, hm_⟩ := bnd_some hm; clear hm
                      refine CW.join_any (fun F_ w398 => ∃ (lab399 : Lab) , F_ = [(1, .int .i64 a1), (2, .slice oa4 a2.length c5), (5, .int .i64 a5), (17, .slice oa96 y94.1.length c97), (18, .int .i64 y94.2), (22, .slice oa330 x329.length c331), (190, .bool y396)] ∧ Cx [] w lab w398 lab399 ∧ SL Rep.u8 lab399 w398 oa4 c5 a2 ∧ Own R_api_Partial lab399 w398 27 63 oa96 c97 y94.1 ∧ Own Rep.u8 lab399 w398 32 5 oa330 c331 x329 ∧ True) ?_ ?_
                      · have hm := h397; clear h397
                        refine CW.region ?_
                        refine LW.move wn rfl rfl ?_
                        refine LW.lss hm wn rfl rfl rfl ?_; clear hm; intro x400 hm
                        refine LW.move wn rfl rfl ?_
                        rcases Bool.eq_false_or_eq_true x400 with hb402 | hb402
                        · replace hm := cond_t hm hb402
                          refine LW.move (ws 193 rfl (bk rfl hb402)) rfl rfl ?_
                          refine LW.len kUnd_22 (ws 193 rfl (bk rfl hb402)) rfl rfl ?_
                          refine LW.geq hm (ws 193 rfl (bk rfl hb402)) rfl rfl rfl ?_; clear hm; intro x403 hm
                          refine LW.pick_t wn rfl (bk rfl hb402) rfl ?_
                          refine LW.assign wn rfl rfl ?_
                          refine LW.nil ?_
                          obtain rfl := Option.some.inj hm
                          refine EW.sub (G := [(1, .int .i64 a1), (2, .slice oa4 a2.length c5), (5, .int .i64 a5), (17, .slice oa96 y94.1.length c97), (18, .int .i64 y94.2), (22, .slice oa330 x329.length c331), (190, .bool x403)]) ⟨rfl, rfl, rfl, rfl, rfl, rfl, rfl, trivial⟩ ?_
                          exact EW.join_n ⟨_, rfl, cx, s6, o98, o335, trivial⟩
                        · replace hm := cond_f hm hb402
                          refine LW.skip 193 rfl (bk rfl hb402) rfl rfl ?_
                          refine LW.skip 193 rfl (bk rfl hb402) rfl rfl ?_
                          refine LW.skip 193 rfl (bk rfl hb402) rfl rfl ?_
                          refine LW.pick_f wn rfl (bk rfl hb402) rfl ?_
                          refine LW.assign wn rfl rfl ?_
                          refine LW.nil ?_
                          obtain rfl := Option.some.inj hm
                          refine EW.sub (G := [(1, .int .i64 a1), (2, .slice oa4 a2.length c5), (5, .int .i64 a5), (17, .slice oa96 y94.1.length c97), (18, .int .i64 y94.2), (22, .slice oa330 x329.length c331), (190, .bool false)]) ⟨rfl, rfl, rfl, rfl, rfl, rfl, rfl, trivial⟩ ?_
                          exact EW.join_n ⟨_, rfl, cx, s6, o98, o335, trivial⟩
                      · rintro _ w398 ⟨lab399, rfl, cx, s6, o98, o335, _⟩
                        have hm := hm_; clear hm_
                        refine EW.seq_n ?_
                        refine CW.cond (b := y396) rfl (fun hb404 => ?_) (fun hb404 => ?_)
                        · replace hm := cond_t hm hb404
                          refine CW.seq ?_
                          refine CW.region ?_
                          refine LW.assign wn rfl rfl ?_
                          refine LW.assign wn rfl rfl ?_
                          refine LW.assign wn rfl rfl ?_
                          refine LW.assign wn rfl rfl ?_
                          refine LW.nil ?_
                          refine EW.seq_n ?_
                          refine CW.ret ?_
                          refine EW.block_r ?_
                          refine EW.seq_r ?_
                          obtain rfl := Option.some.inj hm
                          exact EW.rets (vs := [.slice none 0 0, .slice none 0 0, .bool false, .int .i64 16]) rfl ⟨rfl, rfl, rfl, rfl, trivial⟩ rfl ⟨none, 0, none, 0, rfl, (cx.ste t), SL.nil, SL.nil, trivial⟩
                        · replace hm := cond_f hm hb404
                          refine CW.skip ?_
                          refine EW.block_n ?_
                          refine EW.seq_n ?_
                          refine CW.seq ?_
                          refine CW.region ?_
                          refine LW.move wn rfl rfl ?_
                          refine LW.move wn rfl rfl ?_
                          refine LW.append (ρ := Rep.u8) (xs := ([] : List UInt8)) (ys := a2) hm (Own.nil (k := 210)) (SL.flat' (lab := _) (c := c5) s6) cx.top rfl kSl_24 rfl wn rfl rfl rfl ?_; clear hm; intro x405 oa406 c407 lab408 w409 hm e410 o411
                          replace cx := cx.step e410 rfl
                          replace s6 := s6.step e410
                          replace o98 := o98.step e410 rfl
                          replace o335 := o335.step e410 rfl
                          clear e410
                          refine LW.move wn rfl rfl ?_
                          refine LW.move wn rfl rfl ?_
                          refine LW.add hm wn rfl rfl rfl ?_; clear hm; intro x412 hm
                          have s413 := Own.view o411; replace cx := cx.mask (k := 210) rfl
                          replace s6 := s6.keep (Keeps.mask (k := 210))
                          replace o98 := o98.mask (k' := 210) rfl
                          replace o335 := o335.mask (k' := 210) rfl
                          have s414 := Own.view o335; replace cx := cx.mask (k := 32) rfl
                          replace s6 := s6.keep (Keeps.mask (k := 32))
                          replace o98 := o98.mask (k' := 32) rfl
                          replace s413 := s413.keep (Keeps.mask (k := 32))
                          refine LW.build (vs := [(0, .int .i64 a1), (1, .slice oa406 x405.length c407), (2, .slice oa330 x329.length c331), (3, .int .i64 x412)]) (cs := [.int .i64 a1, .slice oa406 x405.length c407, .slice oa330 x329.length c331, .int .i64 x412]) rfl ((kBuilt_63 _).trans rfl) wn rfl ?_
                          refine LW.alloc 33 [.int .i64 0, .slice none 0 0, .slice none 0 0, .int .i64 0] kZero_63 rfl cx.top wn rfl ?_
                          intro g415 lab416 w417 e418 b419
                          replace cx := cx.step e418 rfl
                          replace s6 := s6.step e418
                          replace o98 := o98.step e418 rfl
                          replace s414 := s414.step e418
                          replace s413 := s413.step e418
                          clear e418
                          refine LW.storeBn [.int .i64 a1, .slice oa406 x405.length c407, .slice oa330 x329.length c331, .int .i64 x412] [.int .i64 a1, .slice oa406 x405.length c407, .slice oa330 x329.length c331, .int .i64 x412] b419 cx.top rfl kAgg_63 rfl rfl rfl rfl wn rfl rfl ?_
                          intro w420 e421 b422; clear b419
                          replace cx := cx.step e421 rfl
                          replace s6 := s6.step e421
                          replace o98 := o98.step e421 rfl
                          replace s414 := s414.step e421
                          replace s413 := s413.step e421
                          clear e421
                          refine LW.nil ?_
                          refine EW.seq_n ?_
                          refine CW.seq ?_
                          refine CW.seq ?_
                          refine CW.region ?_
                          refine LW.move wn rfl rfl ?_
                          refine LW.lss hm wn rfl rfl rfl ?_; clear hm; intro x423 hm
                          refine LW.nil ?_
                          refine EW.seq_n ?_
                          refine CW.cond (b := x423) rfl (fun hb424 => ?_) (fun hb424 => ?_)
                          · replace hm := cond_t hm hb424
                            refine CW.seq ?_
                            refine CW.region ?_
                            refine LW.move wn rfl rfl ?_
                            refine LW.loadBn [.int .i64 a1, .slice oa406 x405.length c407, .slice oa330 x329.length c331, .int .i64 x412] b422 kAgg_63 rfl rfl wn rfl rfl ?_
                            refine LW.buildSlice (ρ := R_api_Partial) (vs := [(0, .agg ([.int .i64 a1, .slice oa406 x405.length c407, .slice oa330 x329.length c331, .int .i64 x412] : List Value).toArray)]) (css := [[.int .i64 a1, .slice oa406 x405.length c407, .slice oa330 x329.length c331, .int .i64 x412]]) (xs := [(S_api_Partial.mk a1 x405 x329 x412)]) rfl kSl_22 kZero_63 (by kernel_rfl) rfl rfl ⟨⟨_, _, _, _, rfl, s413, s414, trivial⟩, trivial⟩ cx.top wn rfl ?_
                            intro oa425 c426 lab429 w430 e427 s428
                            replace cx := cx.step e427 rfl
                            replace o98 := o98.step e427 rfl
                            replace b422 := b422.step e427 rfl
                            replace s413 := s413.step e427
                            replace s414 := s414.step e427
                            clear e427
                            refine LW.append (ρ := R_api_Partial) (xs := y94.1) (ys := [(S_api_Partial.mk a1 x405 x329 x412)]) hm o98 (SL.flat' (lab := _) (c := c426) s428) cx.top rfl kSl_22 rfl wn rfl rfl rfl ?_; clear hm; intro x431 oa432 c433 lab434 w435 hm e436 o437
                            replace cx := cx.step e436 rfl
                            replace b422 := b422.step e436 rfl
                            replace s413 := s413.step e436
                            replace s414 := s414.step e436
                            replace s428 := s428.step e436
                            clear e436
                            refine LW.assign wn rfl rfl ?_
                            refine LW.assign wn rfl rfl ?_
                            refine LW.assign wn rfl rfl ?_
                            refine LW.assign wn rfl rfl ?_
                            refine LW.nil ?_
                            refine EW.seq_n ?_
                            refine CW.ret ?_
                            refine EW.seq_r ?_
                            obtain rfl := Option.some.inj hm
                            exact EW.rets (vs := [.slice oa432 x431.length c433, .slice none 0 0, .bool false, .int .i64 0]) rfl ⟨rfl, rfl, rfl, rfl, trivial⟩ rfl ⟨oa432, c433, none, 0, rfl, (cx.ste t), (o437.sl (cx.keeps t) (cx.own0 t rfl)), SL.nil, trivial⟩
                          · replace hm := cond_f hm hb424
                            refine CW.skip ?_
                            refine EW.seq_n ?_
                            refine CW.seq ?_
                            refine CW.region ?_
                            refine LW.move wn rfl rfl ?_
                            refine LW.move wn rfl rfl ?_
                            refine LW.loadBn [.int .i64 a1, .slice oa406 x405.length c407, .slice oa330 x329.length c331, .int .i64 x412] b422 kAgg_63 rfl rfl wn rfl rfl ?_
                            refine LW.indexO hm o98 kSl_22 wn rfl rfl rfl ?_; clear hm; intro x442 p438 cs439 hm hr440 ha441 he443 hp444
                            obtain ⟨oa445, c446, oa448, c449, rfl, s447, s450, _⟩ := hr440
                            refine LW.storeOn (e' := (S_api_Partial.mk a1 x405 x329 x412)) hm o98 hp444 he443 cx.top rfl kAgg_63 rfl rfl (show _ from ⟨_, _, _, _, rfl, s413, s414, trivial⟩) rfl wn rfl rfl ?_; clear hm; intro x451 w452 hm hl_ e453 o454; rw [show Value.slice oa96 y94.1.length c97 = Value.slice oa96 x451.length c97 from by rw [hl_]]; clear hl_
                            replace cx := cx.step e453 rfl
                            replace b422 := b422.step e453 rfl
                            replace s413 := s413.step e453
                            replace s414 := s414.step e453
                            replace s447 := s447.step e453
                            replace s450 := s450.step e453
                            clear e453
                            refine LW.nil ?_
                            refine EW.seq_n ?_
                            refine CW.seq ?_
                            refine CW.region ?_
                            refine LW.move wn rfl rfl ?_
                            refine LW.assign wn rfl rfl ?_
                            refine LW.assign wn rfl rfl ?_
                            refine LW.assign wn rfl rfl ?_
                            refine LW.assign wn rfl rfl ?_
                            refine LW.nil ?_
                            refine EW.seq_n ?_
                            refine CW.ret ?_
                            obtain rfl := Option.some.inj hm
                            exact EW.rets (vs := [.slice oa96 x451.length c97, .slice none 0 0, .bool false, .int .i64 0]) rfl ⟨rfl, rfl, rfl, rfl, trivial⟩ rfl ⟨oa96, c97, none, 0, rfl, (cx.ste t), (o454.sl (cx.keeps t) (cx.own0 t rfl)), SL.nil, trivial⟩
end Go.Proofs.Ytaefnnamjphieaa
