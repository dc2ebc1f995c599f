/-
  The law BlockWhole: its model, and that it computes it. No condition but that the model has a value.
-/
import Derived.Test.YtaefnnamjphieaaPCoreseclaw18
namespace Go.Proofs.Ytaefnnamjphieaa
open Go.Gk Go.RowKit
set_option linter.unusedVariables false in
def m_coreseclaw18_BlockWhole_l1 (a0 : List UInt8) (a2 : Int) (y14 : S_coresecmake_Deck) : Nat → Int → (List S_api_Partial) → Int → Int → S_coresecmake_Deck → Option (Bool ⊕ Unit)
    | 0, _, _, _, _, _ => none
    | n48 + 1, x37, x38, x39, x40, x41 => letm (decide (x40 < 60)) fun x49 =>
  (cond x49 (letm (w64 (x37 + 4)) fun x51 =>
  letm (toU64 x51) fun x52 =>
  bnd (Gk.shr x39 (x52.toNat : Int)) fun x53 =>
  bnd (m_block_Cut a0 x53 x37) fun y54 =>
  letm (y54.2.2 != 0) fun x62 =>
  (cond x62 (some (Sum.inl false))
   (bnd (m_coresecmake_Deck_Next (S_coresecmake_Deck.mk y14.L x41.At) 2) fun y70 =>
  bnd (m_coresecmake_Some a2 16) fun y76 =>
  bnd (m_block_Put x38 2 ([(7 : UInt8)]) (S_api_Block.mk y70.1 true 0) y76 x40) fun y84 =>
  letm (y84.2.2.2 == 0) fun x95 =>
  bnd ((cond x95 (some (y84.1))
   (some (x38))) : Option ((List S_api_Partial))) fun y96 =>
  bnd (m_block_Put y96 1 ([(7 : UInt8)]) (S_api_Block.mk x53 y54.2.1 x37) y54.1 x40) fun y110 =>
  bnd (letm (y110.2.2.2 != 0) fun x125 =>
  (cond x125 (some (true))
   (letm (y110.2.2.1 == y54.2.1) fun x128 =>
  some (x128))) : Option (Bool)) fun y121 =>
  (cond y121 (some (Sum.inl false))
   ((cond y110.2.2.1 (bnd (letm (y110.2.1 == a0) fun x135 =>
  (cond x135 (bnd (m_coreseclaw18_awake ) fun y138 =>
  some (y138))
   (some (false))) : Option (Bool)) fun y131 =>
  some (Sum.inl y131))
   (letm (w64 (x39 + (y54.1.length : Int))) fun x143 =>
  bnd (letm (decide (0 < x37)) fun x149 =>
  (cond x149 (bnd (m_coresecmake_Deck_Next (S_coresecmake_Deck.mk y14.L y70.2.At) 3) fun y152 =>
  letm (y152.1 == 0) fun x158 =>
  some ((x158, (S_coresecmake_Deck.mk y14.L y152.2.At))))
   (some ((false, (S_coresecmake_Deck.mk y14.L y70.2.At))))) : Option (Bool × S_coresecmake_Deck)) fun y144 =>
  (cond y144.1 (letm (w64 (x37 - 1)) fun x160 =>
  letm (w64 (x40 + 1)) fun x161 =>
  m_coreseclaw18_BlockWhole_l1 a0 a2 y14 n48 x160 y110.1 x143 x161 (S_coresecmake_Deck.mk y14.L y144.2.At))
   (letm (w64 (x40 + 1)) fun x162 =>
  m_coreseclaw18_BlockWhole_l1 a0 a2 y14 n48 x37 y110.1 x143 x162 (S_coresecmake_Deck.mk y14.L y144.2.At))))))))))
   (some (Sum.inr ())))
set_option linter.unusedVariables false in
def m_coreseclaw18_BlockWhole (a0 : List UInt8) (a1 : List Int) (a2 : Int) (a3 : Int) : Option (Bool) :=
  letm (decide (600 < (a0.length : Int))) fun x7 =>
  (cond x7 (bnd (m_coreseclaw18_awake ) fun y9 =>
  some y9)
   (bnd (m_coresecmake_New a1) fun y14 =>
  bnd (m_coresecmake_Mod a3 5) fun y25 =>
  bndS (m_coreseclaw18_BlockWhole_l1 a0 a2 y14 ((60 - (0 : Int)).toNat + 2) y25 ([]) 0 0 (S_coresecmake_Deck.mk y14.L y14.At) : Option (Bool ⊕ Unit)) (fun q => q) fun y30 =>
  some false))
set_option maxRecDepth 100000 in
set_option maxHeartbeats 2000000 in
theorem c_coreseclaw18_BlockWhole {lab : Lab} {w : World} {a0 : List UInt8} {a1 : List Int} {a2 : Int} {a3 : Int} {r : Bool} (hm : m_coreseclaw18_BlockWhole a0 a1 a2 a3 = some r) (t : Top lab w) {oa1 : Option Addr} {c2 : Nat} (s3 : SL Rep.u8 lab w oa1 c2 a0) {oa4 : Option Addr} {c5 : Nat} (s6 : SL Rep.i64 lab w oa4 c5 a1) : Calls Try.prog 5 [.slice oa1 a0.length c2, .slice oa4 a1.length c5, .int .i64 a2, .int .i64 a3].toArray w (fun e w' => e = .returned (.bool r) ∧ Ste lab 0 w lab w' ∧ True) := by
  refine enter Try.func5 rfl 113 rfl rfl ?_
  have cx := Cx.start t
  replace s3 := s3.keep Keeps.lin
  replace s6 := s6.keep Keeps.lin
  refine CW.sub (G := [(0, .slice oa1 a0.length c2), (1, .slice oa4 a1.length c5), (2, .int .i64 a2), (3, .int .i64 a3)]) ⟨rfl, rfl, rfl, rfl, trivial⟩ ?_
  unfold m_coreseclaw18_BlockWhole at hm
  refine CW.seq ?_
  refine CW.region ?_
  refine LW.assign wn rfl rfl ?_
  refine LW.nil ?_
  refine EW.seq_n ?_
  refine CW.seq ?_
  refine CW.seq ?_
  refine CW.region ?_
  refine LW.move wn rfl rfl ?_
  refine LW.len kUnd_24 wn rfl rfl ?_
  refine LW.gtr hm wn rfl rfl rfl ?_; clear hm; intro x7 hm
  refine LW.nil ?_
  refine EW.seq_n ?_
  refine CW.cond (b := x7) rfl (fun hb8 => ?_) (fun hb8 => ?_)
  · replace hm := cond_t hm hb8
    refine CW.seq ?_
    refine CW.region ?_
    obtain ⟨y9, h13, hm_⟩ := bnd_some hm; clear hm; have hm := hm_; clear hm_
    refine LW.call kFn_10 (c_coreseclaw18_awake h13 cx.top) wn rfl rfl ?_
    rintro _ w10 ⟨rfl, e11, _⟩; refine ⟨_, rfl, ?_⟩
    replace cx := cx.step e11 rfl
    replace s3 := s3.step e11
    replace s6 := s6.step e11
    clear e11
    refine LW.assign wn rfl rfl ?_
    refine LW.nil ?_
    refine EW.seq_n ?_
    refine CW.ret ?_
    refine EW.seq_r ?_
    obtain rfl := Option.some.inj hm
    exact EW.ret1 rfl rfl ⟨rfl, (cx.ste t), trivial⟩
  · replace hm := cond_f hm hb8
    refine CW.skip ?_
    refine EW.seq_n ?_
    refine CW.seq ?_
    refine CW.region ?_
    refine LW.move wn rfl rfl ?_
    obtain ⟨y14, h18, hm_⟩ := bnd_some hm; clear hm; have hm := hm_; clear hm_
    refine LW.call kFn_11 (c_coresecmake_New (k := 19) h18 cx.top s6) wn rfl rfl ?_
    rintro _ w15 ⟨lab19, g20, oa22, c23, rfl, e16, b21, s24, _⟩; refine ⟨_, rfl, ?_⟩
    replace cx := cx.step e16 rfl
    replace s3 := s3.step e16
    replace s6 := s6.step e16
    clear e16
    refine LW.assign wn rfl rfl ?_
    refine LW.nil ?_
    refine EW.seq_n ?_
    refine CW.seq ?_
    refine CW.region ?_
    refine LW.move wn rfl rfl ?_
    obtain ⟨y25, h29, hm_⟩ := bnd_some hm; clear hm; have hm := hm_; clear hm_
    refine LW.call kFn_13 (c_coresecmake_Mod h29 cx.top) wn rfl rfl ?_
    rintro _ w26 ⟨rfl, e27, _⟩; refine ⟨_, rfl, ?_⟩
    replace cx := cx.step e27 rfl
    replace s3 := s3.step e27
    replace b21 := b21.step e27 rfl
    replace s24 := s24.step e27
    clear e27
    refine LW.assign wn rfl rfl ?_
    refine LW.nil ?_
    refine EW.seq_n ?_
    refine CW.seq ?_
    refine CW.region ?_
    refine LW.assign wn rfl rfl ?_
    refine LW.nil ?_
    refine EW.seq_n ?_
    refine CW.seq ?_
    refine CW.region ?_
    refine LW.assign wn rfl rfl ?_
    refine LW.nil ?_
    refine EW.seq_n ?_
    refine CW.seq ?_
    refine CW.seq ?_
    refine CW.region ?_
    refine LW.assign wn rfl rfl ?_
    refine LW.nil ?_
    refine EW.seq_n ?_
    obtain ⟨s31, h32, hs33, hs34⟩ := bndS_some hm; clear hm
    refine CW.join_any (fun F_ w35 => ∃ (y30 : Unit) (lab36 : Lab) , s31 = .inr y30 ∧ F_ = [] ∧ Cx [] w lab w35 lab36 ∧ True) ?_ ?_
    · have hm := h32; clear h32
      refine CW.block ?_
      refine CW.sub (G := [(0, .slice oa1 a0.length c2), (2, .int .i64 a2), (3, .int .i64 y25), (9, .pointer (some ⟨g20, 0, none⟩)), (10, .slice none ([] : List S_api_Partial).length 0), (11, .int .i64 0), (12, .int .i64 0)]) ⟨rfl, rfl, rfl, rfl, rfl, rfl, rfl, trivial⟩ ?_
      refine CW.loop (fun n48 F_ w46 => ∃ (lab47 : Lab) (x37 : Int) (x38 : List S_api_Partial) (x39 : Int) (x40 : Int) (x41 : S_coresecmake_Deck) (oa42 : Option Addr) (c43 : Nat), F_ = [(0, .slice oa1 a0.length c2), (2, .int .i64 a2), (3, .int .i64 x37), (9, .pointer (some ⟨g20, 0, none⟩)), (10, .slice oa42 x38.length c43), (11, .int .i64 x39), (12, .int .i64 x40)] ∧ Cx [] w lab w46 lab47 ∧ SL Rep.u8 lab47 w46 oa1 c2 a0 ∧ Box lab47 w46 19 g20 61 [.slice oa22 y14.L.length c23, .int .i64 x41.At] ∧ SL Rep.i64 lab47 w46 oa22 c23 y14.L ∧ SL R_api_Partial lab47 w46 oa42 c43 x38 ∧ m_coreseclaw18_BlockWhole_l1 a0 a2 y14 n48 x37 x38 x39 x40 x41 = some s31) ((60 - (0 : Int)).toNat + 2) ⟨_, _, _, _, _, _, none, 0, rfl, cx, s3, b21, s24, SL.nil, hm⟩ ?_
      rintro n48 _ w46 ⟨lab47, x37, x38, x39, x40, x41, oa42, c43, rfl, cx, s3, b45, s24, s44, hm⟩
      rcases n48 with _ | n48
      · rw [m_coreseclaw18_BlockWhole_l1] at hm; cases hm
      · rw [m_coreseclaw18_BlockWhole_l1] at hm
        refine CW.seq ?_
        refine CW.seq ?_
        refine CW.region ?_
        refine LW.move wn rfl rfl ?_
        refine LW.lss hm wn rfl rfl rfl ?_; clear hm; intro x49 hm
        refine LW.nil ?_
        refine EW.seq_n ?_
        refine CW.cond (b := x49) rfl (fun hb50 => ?_) (fun hb50 => ?_)
        · replace hm := cond_t hm hb50
          refine CW.skip ?_
          refine EW.seq_n ?_
          refine CW.seq ?_
          refine CW.block ?_
          refine CW.seq ?_
          refine CW.region ?_
          refine LW.move wn rfl rfl ?_
          refine LW.move wn rfl rfl ?_
          refine LW.add hm wn rfl rfl rfl ?_; clear hm; intro x51 hm
          refine LW.cvt_u64 hm kIs_3 kInt_37 wn rfl rfl ?_; clear hm; intro x52 hm
          refine LW.shr hm wn rfl rfl rfl ?_; clear hm; intro x53 hm
          refine LW.assign wn rfl rfl ?_
          refine LW.nil ?_
          refine EW.seq_n ?_
          refine CW.seq ?_
          refine CW.region ?_
          refine LW.move wn rfl rfl ?_
          refine LW.move wn rfl rfl ?_
          refine LW.move wn rfl rfl ?_
          obtain ⟨y54, h58, hm_⟩ := bnd_some hm; clear hm; have hm := hm_; clear hm_
          refine LW.call kFn_20 (c_block_Cut h58 cx.top s3) wn rfl rfl ?_
          rintro _ w55 ⟨oa59, c60, rfl, e56, s61, _⟩; refine ⟨_, rfl, ?_⟩
          replace cx := cx.step e56 rfl
          replace s3 := s3.step e56
          replace b45 := b45.step e56 rfl
          replace s24 := s24.step e56
          replace s44 := s44.step e56
          clear e56
          refine LW.move wn rfl rfl ?_
          refine LW.extract wn rfl rfl rfl ?_
          refine LW.extract wn rfl rfl rfl ?_
          refine LW.extract wn rfl rfl rfl ?_
          refine LW.assign wn rfl rfl ?_
          refine LW.assign wn rfl rfl ?_
          refine LW.assign wn rfl rfl ?_
          refine LW.nil ?_
          refine EW.seq_n ?_
          refine CW.seq ?_
          refine CW.seq ?_
          refine CW.region ?_
          refine LW.move wn rfl rfl ?_
          refine LW.neq hm wn rfl rfl rfl ?_; clear hm; intro x62 hm
          refine LW.nil ?_
          refine EW.seq_n ?_
          refine CW.cond (b := x62) rfl (fun hb63 => ?_) (fun hb63 => ?_)
          · replace hm := cond_t hm hb63
            refine CW.seq ?_
            refine CW.region ?_
            refine LW.assign wn rfl rfl ?_
            refine LW.nil ?_
            refine EW.seq_n ?_
            refine CW.ret ?_
            refine EW.seq_r ?_
            refine EW.block_r ?_
            refine EW.seq_r ?_
            refine EW.join_r ?_
            refine EW.block_r ?_
            refine EW.join_r ?_
            obtain rfl := Option.some.inj hm; have hm := hs33 _ rfl
            refine EW.seq_r ?_
            obtain rfl := Option.some.inj hm
            exact EW.ret1 rfl rfl ⟨rfl, (cx.ste t), trivial⟩
          · replace hm := cond_f hm hb63
            refine CW.skip ?_
            refine EW.seq_n ?_
            refine CW.seq ?_
            refine CW.region ?_
            refine LW.move wn rfl rfl ?_
            refine LW.buildSlice (ρ := Rep.u8) (vs := [(0, .int .u8 ((7 : UInt8).toNat : Int))]) (css := [[.int .u8 ((7 : UInt8).toNat : Int)]]) (xs := [(7 : UInt8)]) rfl kSl_24 kZero_5 (by kernel_rfl) rfl rfl ⟨rfl, trivial⟩ cx.top wn rfl ?_
            intro oa64 c65 lab68 w69 e66 s67
            replace cx := cx.step e66 rfl
            replace s3 := s3.step e66
            replace b45 := b45.step e66 rfl
            replace s24 := s24.step e66
            replace s44 := s44.step e66
            replace s61 := s61.step e66
            clear e66
            refine LW.move wn rfl rfl ?_
            obtain ⟨y70, h74, hm_⟩ := bnd_some hm; clear hm; have hm := hm_; clear hm_
            refine LW.call kFn_21 (c_coresecmake_Deck_Next h74 cx.top b45 s24) wn rfl rfl ?_
            rintro _ w71 ⟨rfl, e72, b75, _⟩; refine ⟨_, rfl, ?_⟩
            replace cx := cx.step e72 rfl
            replace s3 := s3.step e72
            replace s24 := s24.step e72
            replace s44 := s44.step e72
            replace s61 := s61.step e72
            replace s67 := s67.step e72
            clear b45
            clear e72
            refine LW.build (vs := [(0, .int .i64 y70.1), (1, .bool true)]) (cs := [.int .i64 y70.1, .bool true, .int .i64 0]) rfl ((kBuilt_26 _).trans rfl) wn rfl ?_
            refine LW.move wn rfl rfl ?_
            obtain ⟨y76, h80, hm_⟩ := bnd_some hm; clear hm; have hm := hm_; clear hm_
            refine LW.call kFn_16 (c_coresecmake_Some h80 cx.top) wn rfl rfl ?_
            rintro _ w77 ⟨oa81, c82, rfl, e78, s83, _⟩; refine ⟨_, rfl, ?_⟩
            replace cx := cx.step e78 rfl
            replace s3 := s3.step e78
            replace b75 := b75.step e78 rfl
            replace s24 := s24.step e78
            replace s44 := s44.step e78
            replace s61 := s61.step e78
            replace s67 := s67.step e78
            clear e78
            refine LW.move wn rfl rfl ?_
            obtain ⟨y84, h88, hm_⟩ := bnd_some hm; clear hm; have hm := hm_; clear hm_
            refine LW.call kFn_17 (c_block_Put h88 cx.top s44 s67 s83) wn rfl rfl ?_
            rintro _ w85 ⟨oa89, c90, oa92, c93, rfl, e86, s91, s94, _⟩; refine ⟨_, rfl, ?_⟩
            replace cx := cx.step e86 rfl
            replace s3 := s3.step e86
            replace b75 := b75.step e86 rfl
            replace s24 := s24.step e86
            replace s44 := s44.step e86
            replace s61 := s61.step e86
            replace s67 := s67.step e86
            replace s83 := s83.step e86
            clear e86
            refine LW.move wn rfl rfl ?_
            refine LW.extract wn rfl rfl rfl ?_
            refine LW.extract wn rfl rfl rfl ?_
            refine LW.extract wn rfl rfl rfl ?_
            refine LW.extract wn rfl rfl rfl ?_
            refine LW.assign wn rfl rfl ?_
            refine LW.assign wn rfl rfl ?_
            refine LW.assign wn rfl rfl ?_
            refine LW.assign wn rfl rfl ?_
            refine LW.nil ?_
            refine EW.seq_n ?_
            refine CW.seq ?_
            refine CW.seq ?_
            refine CW.region ?_
            refine LW.move wn rfl rfl ?_
            refine LW.eql hm wn rfl rfl rfl ?_; clear hm; intro x95 hm
            refine LW.nil ?_
            refine EW.seq_n ?_
            obtain ⟨y96, h97, hm_⟩ := bnd_some hm; clear hm
            refine CW.join_any (fun F_ w101 => ∃ (lab102 : Lab) (oa98 : Option Addr) (c99 : Nat), F_ = [(0, .slice oa1 a0.length c2), (2, .int .i64 a2), (3, .int .i64 x37), (9, .pointer (some ⟨g20, 0, none⟩)), (10, .slice oa98 y96.length c99), (11, .int .i64 x39), (12, .int .i64 x40), (13, .int .i64 x53), (14, .slice oa59 y54.1.length c60), (15, .bool y54.2.1)] ∧ Cx [] w lab w101 lab102 ∧ SL Rep.u8 lab102 w101 oa1 c2 a0 ∧ Box lab102 w101 19 g20 61 [.slice oa22 y14.L.length c23, .int .i64 y70.2.At] ∧ SL Rep.i64 lab102 w101 oa22 c23 y14.L ∧ SL R_api_Partial lab102 w101 oa98 c99 y96 ∧ SL Rep.u8 lab102 w101 oa59 c60 y54.1 ∧ True) ?_ ?_
            · have hm := h97; clear h97
              refine CW.cond (b := x95) rfl (fun hb103 => ?_) (fun hb103 => ?_)
              · replace hm := cond_t hm hb103
                refine CW.region ?_
                refine LW.move wn rfl rfl ?_
                refine LW.assign wn rfl rfl ?_
                refine LW.nil ?_
                obtain rfl := Option.some.inj hm
                refine EW.sub (G := [(0, .slice oa1 a0.length c2), (2, .int .i64 a2), (3, .int .i64 x37), (9, .pointer (some ⟨g20, 0, none⟩)), (10, .slice oa89 y84.1.length c90), (11, .int .i64 x39), (12, .int .i64 x40), (13, .int .i64 x53), (14, .slice oa59 y54.1.length c60), (15, .bool y54.2.1)]) ⟨rfl, rfl, rfl, rfl, rfl, rfl, rfl, rfl, rfl, rfl, trivial⟩ ?_
                exact EW.join_n ⟨_, oa89, c90, rfl, cx, s3, b75, s24, s91, s61, trivial⟩
              · replace hm := cond_f hm hb103
                refine CW.skip ?_
                obtain rfl := Option.some.inj hm
                refine EW.sub (G := [(0, .slice oa1 a0.length c2), (2, .int .i64 a2), (3, .int .i64 x37), (9, .pointer (some ⟨g20, 0, none⟩)), (10, .slice oa42 x38.length c43), (11, .int .i64 x39), (12, .int .i64 x40), (13, .int .i64 x53), (14, .slice oa59 y54.1.length c60), (15, .bool y54.2.1)]) ⟨rfl, rfl, rfl, rfl, rfl, rfl, rfl, rfl, rfl, rfl, trivial⟩ ?_
                exact EW.join_n ⟨_, oa42, c43, rfl, cx, s3, b75, s24, s44, s61, trivial⟩
            · rintro _ w101 ⟨lab102, oa98, c99, rfl, cx, s3, b75, s24, s100, s61, _⟩
              have hm := hm_; clear hm_
              refine EW.seq_n ?_
              refine CW.seq ?_
              refine CW.region ?_
              refine LW.move wn rfl rfl ?_
              refine LW.buildSlice (ρ := Rep.u8) (vs := [(0, .int .u8 ((7 : UInt8).toNat : Int))]) (css := [[.int .u8 ((7 : UInt8).toNat : Int)]]) (xs := [(7 : UInt8)]) rfl kSl_24 kZero_5 (by kernel_rfl) rfl rfl ⟨rfl, trivial⟩ cx.top wn rfl ?_
              intro oa104 c105 lab108 w109 e106 s107
              replace cx := cx.step e106 rfl
              replace s3 := s3.step e106
              replace b75 := b75.step e106 rfl
              replace s24 := s24.step e106
              replace s100 := s100.step e106
              replace s61 := s61.step e106
              clear e106
              refine LW.move wn rfl rfl ?_
              refine LW.move wn rfl rfl ?_
              refine LW.move wn rfl rfl ?_
              refine LW.build (vs := [(0, .int .i64 x53), (1, .bool y54.2.1), (2, .int .i64 x37)]) (cs := [.int .i64 x53, .bool y54.2.1, .int .i64 x37]) rfl ((kBuilt_26 _).trans rfl) wn rfl ?_
              refine LW.move wn rfl rfl ?_
              refine LW.move wn rfl rfl ?_
              obtain ⟨y110, h114, hm_⟩ := bnd_some hm; clear hm; have hm := hm_; clear hm_
              refine LW.call kFn_17 (c_block_Put h114 cx.top s100 s107 s61) wn rfl rfl ?_
              rintro _ w111 ⟨oa115, c116, oa118, c119, rfl, e112, s117, s120, _⟩; refine ⟨_, rfl, ?_⟩
              replace cx := cx.step e112 rfl
              replace s3 := s3.step e112
              replace b75 := b75.step e112 rfl
              replace s24 := s24.step e112
              replace s100 := s100.step e112
              replace s61 := s61.step e112
              replace s107 := s107.step e112
              clear e112
              refine LW.move wn rfl rfl ?_
              refine LW.extract wn rfl rfl rfl ?_
              refine LW.extract wn rfl rfl rfl ?_
              refine LW.extract wn rfl rfl rfl ?_
              refine LW.extract wn rfl rfl rfl ?_
              refine LW.assign wn rfl rfl ?_
              refine LW.assign wn rfl rfl ?_
              refine LW.assign wn rfl rfl ?_
              refine LW.assign wn rfl rfl ?_
              refine LW.nil ?_
              refine EW.seq_n ?_
              refine CW.seq ?_
              refine CW.seq ?_
              obtain ⟨y121, h122, hm_⟩ := bnd_some hm; clear hm
              refine CW.join_any (fun F_ w123 => ∃ (lab124 : Lab) , F_ = [(0, .slice oa1 a0.length c2), (2, .int .i64 a2), (3, .int .i64 x37), (9, .pointer (some ⟨g20, 0, none⟩)), (11, .int .i64 x39), (12, .int .i64 x40), (14, .slice oa59 y54.1.length c60), (21, .slice oa115 y110.1.length c116), (22, .slice oa118 y110.2.1.length c119), (23, .bool y110.2.2.1), (89, .bool y121)] ∧ Cx [] w lab w123 lab124 ∧ SL Rep.u8 lab124 w123 oa1 c2 a0 ∧ Box lab124 w123 19 g20 61 [.slice oa22 y14.L.length c23, .int .i64 y70.2.At] ∧ SL Rep.i64 lab124 w123 oa22 c23 y14.L ∧ SL Rep.u8 lab124 w123 oa59 c60 y54.1 ∧ SL R_api_Partial lab124 w123 oa115 c116 y110.1 ∧ SL Rep.u8 lab124 w123 oa118 c119 y110.2.1 ∧ True) ?_ ?_
              · have hm := h122; clear h122
                refine CW.region ?_
                refine LW.move wn rfl rfl ?_
                refine LW.neq hm wn rfl rfl rfl ?_; clear hm; intro x125 hm
                refine LW.move wn rfl rfl ?_
                rcases Bool.eq_false_or_eq_true x125 with hb127 | hb127
                · replace hm := cond_t hm hb127
                  refine LW.skip 85 rfl (bk rfl hb127) rfl rfl ?_
                  refine LW.skip 85 rfl (bk rfl hb127) rfl rfl ?_
                  refine LW.skip 85 rfl (bk rfl hb127) rfl rfl ?_
                  refine LW.pick_t wn rfl (bk rfl hb127) rfl ?_
                  refine LW.nil ?_
                  obtain rfl := Option.some.inj hm
                  refine EW.sub (G := [(0, .slice oa1 a0.length c2), (2, .int .i64 a2), (3, .int .i64 x37), (9, .pointer (some ⟨g20, 0, none⟩)), (11, .int .i64 x39), (12, .int .i64 x40), (14, .slice oa59 y54.1.length c60), (21, .slice oa115 y110.1.length c116), (22, .slice oa118 y110.2.1.length c119), (23, .bool y110.2.2.1), (89, .bool true)]) ⟨rfl, rfl, rfl, rfl, rfl, rfl, rfl, rfl, rfl, rfl, rfl, trivial⟩ ?_
                  exact EW.join_n ⟨_, rfl, cx, s3, b75, s24, s61, s117, s120, trivial⟩
                · replace hm := cond_f hm hb127
                  refine LW.move (ws 85 rfl (bk rfl hb127)) rfl rfl ?_
                  refine LW.move (ws 85 rfl (bk rfl hb127)) rfl rfl ?_
                  refine LW.eqb hm kUnd_4 (ws 85 rfl (bk rfl hb127)) rfl rfl rfl ?_; clear hm; intro x128 hm
                  refine LW.pick_f wn rfl (bk rfl hb127) rfl ?_
                  refine LW.nil ?_
                  obtain rfl := Option.some.inj hm
                  refine EW.sub (G := [(0, .slice oa1 a0.length c2), (2, .int .i64 a2), (3, .int .i64 x37), (9, .pointer (some ⟨g20, 0, none⟩)), (11, .int .i64 x39), (12, .int .i64 x40), (14, .slice oa59 y54.1.length c60), (21, .slice oa115 y110.1.length c116), (22, .slice oa118 y110.2.1.length c119), (23, .bool y110.2.2.1), (89, .bool x128)]) ⟨rfl, rfl, rfl, rfl, rfl, rfl, rfl, rfl, rfl, rfl, rfl, trivial⟩ ?_
                  exact EW.join_n ⟨_, rfl, cx, s3, b75, s24, s61, s117, s120, trivial⟩
              · rintro _ w123 ⟨lab124, rfl, cx, s3, b75, s24, s61, s117, s120, _⟩
                have hm := hm_; clear hm_
                refine EW.seq_n ?_
                refine CW.cond (b := y121) rfl (fun hb129 => ?_) (fun hb129 => ?_)
                · replace hm := cond_t hm hb129
                  refine CW.seq ?_
                  refine CW.region ?_
                  refine LW.assign wn rfl rfl ?_
                  refine LW.nil ?_
                  refine EW.seq_n ?_
                  refine CW.ret ?_
                  refine EW.seq_r ?_
                  refine EW.block_r ?_
                  refine EW.seq_r ?_
                  refine EW.join_r ?_
                  refine EW.block_r ?_
                  refine EW.join_r ?_
                  obtain rfl := Option.some.inj hm; have hm := hs33 _ rfl
                  refine EW.seq_r ?_
                  obtain rfl := Option.some.inj hm
                  exact EW.ret1 rfl rfl ⟨rfl, (cx.ste t), trivial⟩
                · replace hm := cond_f hm hb129
                  refine CW.skip ?_
                  refine EW.seq_n ?_
                  refine CW.seq ?_
                  refine CW.seq ?_
                  refine CW.region ?_
                  refine LW.move wn rfl rfl ?_
                  refine LW.nil ?_
                  refine EW.seq_n ?_
                  refine CW.cond (b := y110.2.2.1) rfl (fun hb130 => ?_) (fun hb130 => ?_)
                  · replace hm := cond_t hm hb130
                    refine CW.seq ?_
                    obtain ⟨y131, h132, hm_⟩ := bnd_some hm; clear hm
                    refine CW.join_any (fun F_ w133 => ∃ (lab134 : Lab) , F_ = [(8, .bool y131)] ∧ Cx [] w lab w133 lab134 ∧ True) ?_ ?_
                    · have hm := h132; clear h132
                      refine CW.region ?_
                      refine LW.move wn rfl rfl ?_
                      refine LW.b2s (xs := y110.2.1) s120 kUnd_24 kUnd_5 kUnd_9 wn rfl rfl ?_
                      refine LW.move wn rfl rfl ?_
                      refine LW.b2s (xs := a0) s3 kUnd_24 kUnd_5 kUnd_9 wn rfl rfl ?_
                      refine LW.eqs hm wn rfl rfl rfl ?_; clear hm; intro x135 hm
                      refine LW.move wn rfl rfl ?_
                      rcases Bool.eq_false_or_eq_true x135 with hb137 | hb137
                      · replace hm := cond_t hm hb137
                        obtain ⟨y138, h142, hm_⟩ := bnd_some hm; clear hm; have hm := hm_; clear hm_
                        refine LW.call kFn_10 (c_coreseclaw18_awake h142 cx.top) (ws 96 rfl (bk rfl hb137)) rfl rfl ?_
                        rintro _ w139 ⟨rfl, e140, _⟩; refine ⟨_, rfl, ?_⟩
                        replace cx := cx.step e140 rfl
                        replace s3 := s3.step e140
                        replace b75 := b75.step e140 rfl
                        replace s24 := s24.step e140
                        replace s61 := s61.step e140
                        replace s117 := s117.step e140
                        replace s120 := s120.step e140
                        clear e140
                        refine LW.pick_t wn rfl (bk rfl hb137) rfl ?_
                        refine LW.assign wn rfl rfl ?_
                        refine LW.nil ?_
                        obtain rfl := Option.some.inj hm
                        refine EW.sub (G := [(8, .bool y138)]) ⟨rfl, trivial⟩ ?_
                        exact EW.join_n ⟨_, rfl, cx, trivial⟩
                      · replace hm := cond_f hm hb137
                        refine LW.skip 96 rfl (bk rfl hb137) rfl rfl ?_
                        refine LW.pick_f wn rfl (bk rfl hb137) rfl ?_
                        refine LW.assign wn rfl rfl ?_
                        refine LW.nil ?_
                        obtain rfl := Option.some.inj hm
                        refine EW.sub (G := [(8, .bool false)]) ⟨rfl, trivial⟩ ?_
                        exact EW.join_n ⟨_, rfl, cx, trivial⟩
                    · rintro _ w133 ⟨lab134, rfl, cx, _⟩
                      have hm := hm_; clear hm_
                      refine EW.seq_n ?_
                      refine CW.ret ?_
                      refine EW.seq_r ?_
                      refine EW.block_r ?_
                      refine EW.seq_r ?_
                      refine EW.join_r ?_
                      refine EW.block_r ?_
                      refine EW.join_r ?_
                      obtain rfl := Option.some.inj hm; have hm := hs33 _ rfl
                      refine EW.seq_r ?_
                      obtain rfl := Option.some.inj hm
                      exact EW.ret1 rfl rfl ⟨rfl, (cx.ste t), trivial⟩
                  · replace hm := cond_f hm hb130
                    refine CW.skip ?_
                    refine EW.seq_n ?_
                    refine CW.seq ?_
                    refine CW.region ?_
                    refine LW.move wn rfl rfl ?_
                    refine LW.move wn rfl rfl ?_
                    refine LW.move wn rfl rfl ?_
                    refine LW.len kUnd_24 wn rfl rfl ?_
                    refine LW.add hm wn rfl rfl rfl ?_; clear hm; intro x143 hm
                    refine LW.assign wn rfl rfl ?_
                    refine LW.assign wn rfl rfl ?_
                    refine LW.nil ?_
                    refine EW.seq_n ?_
                    refine CW.seq ?_
                    obtain ⟨y144, h145, hm_⟩ := bnd_some hm; clear hm
                    refine CW.join_any (fun F_ w147 => ∃ (lab148 : Lab) , F_ = [(0, .slice oa1 a0.length c2), (2, .int .i64 a2), (3, .int .i64 x37), (9, .pointer (some ⟨g20, 0, none⟩)), (10, .slice oa115 y110.1.length c116), (11, .int .i64 x143), (12, .int .i64 x40), (110, .bool y144.1)] ∧ Cx [] w lab w147 lab148 ∧ SL Rep.u8 lab148 w147 oa1 c2 a0 ∧ Box lab148 w147 19 g20 61 [.slice oa22 y14.L.length c23, .int .i64 y144.2.At] ∧ SL Rep.i64 lab148 w147 oa22 c23 y14.L ∧ SL R_api_Partial lab148 w147 oa115 c116 y110.1 ∧ True) ?_ ?_
                    · have hm := h145; clear h145
                      refine CW.region ?_
                      refine LW.move wn rfl rfl ?_
                      refine LW.gtr hm wn rfl rfl rfl ?_; clear hm; intro x149 hm
                      refine LW.move wn rfl rfl ?_
                      rcases Bool.eq_false_or_eq_true x149 with hb151 | hb151
                      · replace hm := cond_t hm hb151
                        refine LW.move (ws 106 rfl (bk rfl hb151)) rfl rfl ?_
                        obtain ⟨y152, h156, hm_⟩ := bnd_some hm; clear hm; have hm := hm_; clear hm_
                        refine LW.call kFn_21 (c_coresecmake_Deck_Next h156 cx.top b75 s24) (ws 106 rfl (bk rfl hb151)) rfl rfl ?_
                        rintro _ w153 ⟨rfl, e154, b157, _⟩; refine ⟨_, rfl, ?_⟩
                        replace cx := cx.step e154 rfl
                        replace s3 := s3.step e154
                        replace s24 := s24.step e154
                        replace s117 := s117.step e154
                        clear b75
                        clear e154
                        refine LW.eql hm (ws 106 rfl (bk rfl hb151)) rfl rfl rfl ?_; clear hm; intro x158 hm
                        refine LW.pick_t wn rfl (bk rfl hb151) rfl ?_
                        refine LW.nil ?_
                        obtain rfl := Option.some.inj hm
                        refine EW.sub (G := [(0, .slice oa1 a0.length c2), (2, .int .i64 a2), (3, .int .i64 x37), (9, .pointer (some ⟨g20, 0, none⟩)), (10, .slice oa115 y110.1.length c116), (11, .int .i64 x143), (12, .int .i64 x40), (110, .bool x158)]) ⟨rfl, rfl, rfl, rfl, rfl, rfl, rfl, rfl, trivial⟩ ?_
                        exact EW.join_n ⟨_, rfl, cx, s3, b157, s24, s117, trivial⟩
                      · replace hm := cond_f hm hb151
                        refine LW.skip 106 rfl (bk rfl hb151) rfl rfl ?_
                        refine LW.skip 106 rfl (bk rfl hb151) rfl rfl ?_
                        refine LW.skip 106 rfl (bk rfl hb151) rfl rfl ?_
                        refine LW.pick_f wn rfl (bk rfl hb151) rfl ?_
                        refine LW.nil ?_
                        obtain rfl := Option.some.inj hm
                        refine EW.sub (G := [(0, .slice oa1 a0.length c2), (2, .int .i64 a2), (3, .int .i64 x37), (9, .pointer (some ⟨g20, 0, none⟩)), (10, .slice oa115 y110.1.length c116), (11, .int .i64 x143), (12, .int .i64 x40), (110, .bool false)]) ⟨rfl, rfl, rfl, rfl, rfl, rfl, rfl, rfl, trivial⟩ ?_
                        exact EW.join_n ⟨_, rfl, cx, s3, b75, s24, s117, trivial⟩
                    · rintro _ w147 ⟨lab148, rfl, cx, s3, b146, s24, s117, _⟩
                      have hm := hm_; clear hm_
                      refine EW.seq_n ?_
                      refine CW.cond (b := y144.1) rfl (fun hb159 => ?_) (fun hb159 => ?_)
                      · replace hm := cond_t hm hb159
                        refine CW.region ?_
                        refine LW.move wn rfl rfl ?_
                        refine LW.sub' hm wn rfl rfl rfl ?_; clear hm; intro x160 hm
                        refine LW.assign wn rfl rfl ?_
                        refine LW.nil ?_
                        refine EW.block_n ?_
                        refine EW.seq_n ?_
                        refine CW.region ?_
                        refine LW.move wn rfl rfl ?_
                        refine LW.add hm wn rfl rfl rfl ?_; clear hm; intro x161 hm
                        refine LW.assign wn rfl rfl ?_
                        refine LW.nil ?_
                        refine EW.sub (G := [(0, .slice oa1 a0.length c2), (2, .int .i64 a2), (3, .int .i64 x160), (9, .pointer (some ⟨g20, 0, none⟩)), (10, .slice oa115 y110.1.length c116), (11, .int .i64 x143), (12, .int .i64 x161)]) ⟨rfl, rfl, rfl, rfl, rfl, rfl, rfl, trivial⟩ ?_
                        exact EW.join_n ⟨_, Nat.lt_succ_self _, _, _, _, _, _, (S_coresecmake_Deck.mk y14.L y144.2.At), oa115, c116, rfl, cx, s3, b146, s24, s117, hm⟩
                      · replace hm := cond_f hm hb159
                        refine CW.skip ?_
                        refine EW.block_n ?_
                        refine EW.seq_n ?_
                        refine CW.region ?_
                        refine LW.move wn rfl rfl ?_
                        refine LW.add hm wn rfl rfl rfl ?_; clear hm; intro x162 hm
                        refine LW.assign wn rfl rfl ?_
                        refine LW.nil ?_
                        refine EW.sub (G := [(0, .slice oa1 a0.length c2), (2, .int .i64 a2), (3, .int .i64 x37), (9, .pointer (some ⟨g20, 0, none⟩)), (10, .slice oa115 y110.1.length c116), (11, .int .i64 x143), (12, .int .i64 x162)]) ⟨rfl, rfl, rfl, rfl, rfl, rfl, rfl, trivial⟩ ?_
                        exact EW.join_n ⟨_, Nat.lt_succ_self _, _, _, _, _, _, (S_coresecmake_Deck.mk y14.L y144.2.At), oa115, c116, rfl, cx, s3, b146, s24, s117, hm⟩
        · replace hm := cond_f hm hb50
          refine CW.exit ?_
          refine EW.seq_x ?_
          refine EW.join_x ?_
          refine EW.block_x ?_
          obtain rfl := Option.some.inj hm
          refine EW.sub (G := []) trivial ?_
          exact EW.join_n ⟨(), _, rfl, rfl, cx, trivial⟩
    · rintro _ w35 ⟨y30, lab36, hsr_, rfl, cx, _⟩
      have hm := hs34 _ hsr_; clear hsr_
      refine EW.seq_n ?_
      refine CW.seq ?_
      refine CW.region ?_
      refine LW.assign wn rfl rfl ?_
      refine LW.nil ?_
      refine EW.seq_n ?_
      refine CW.ret ?_
      obtain rfl := Option.some.inj hm
      exact EW.ret1 rfl rfl ⟨rfl, (cx.ste t), trivial⟩
end Go.Proofs.Ytaefnnamjphieaa
