/-
  Package coresecref18: models of its functions, and that the functions compute them. No condition but that the model has a value.
-/
import Derived.Test.YtaefnnamjphieaaPCoresecref18A
namespace Go.Proofs.Ytaefnnamjphieaa
open Go.Gk Go.RowKit
set_option linter.unusedVariables false in
def m_coresecref18_Same_l1 (a1 : List S_api_Partial) : List S_api_Partial → Nat → Option (Bool ⊕ Unit)
    | [], k19 => some (Sum.inr ())
    | x21 :: rem20, k19 => bnd (bnd (idx a1 ((k19 : Nat) : Int)) fun x51 =>
  letm (x21.Peer != x51.Peer) fun x78 =>
  (cond x78 (some (true))
   (bnd (idx a1 ((k19 : Nat) : Int)) fun x104 =>
  letm (x21.Until != x104.Until) fun x134 =>
  (cond x134 (some (true))
   (bnd (idx a1 ((k19 : Nat) : Int)) fun x161 =>
  letm (x21.Key != x161.Key) fun x196 =>
  (cond x196 (some (true))
   (bnd (idx a1 ((k19 : Nat) : Int)) fun x220 =>
  letm (x21.Data != x220.Data) fun x255 =>
  some (x255))))))) : Option (Bool)) fun y40 =>
  (cond y40 (some (Sum.inl false))
   (m_coresecref18_Same_l1 a1 rem20 (k19 + 1)))
set_option linter.unusedVariables false in
def m_coresecref18_Same (a0 : List S_api_Partial) (a1 : List S_api_Partial) : Option (Bool) :=
  letm ((a0.length : Int) != (a1.length : Int)) fun x7 =>
  (cond x7 (some false)
   (bndS (m_coresecref18_Same_l1 a1 a0 0 : Option (Bool ⊕ Unit)) (fun q => q) fun y9 =>
  some true))
set_option maxRecDepth 100000 in
set_option maxHeartbeats 2000000 in
theorem c_coresecref18_Same {lab : Lab} {w : World} {a0 : List S_api_Partial} {a1 : List S_api_Partial} {r : Bool} (hm : m_coresecref18_Same a0 a1 = some r) (t : Top lab w) {oa1 : Option Addr} {c2 : Nat} (s3 : SL R_api_Partial lab w oa1 c2 a0) {oa4 : Option Addr} {c5 : Nat} (s6 : SL R_api_Partial lab w oa4 c5 a1) : Calls Try.prog 19 [.slice oa1 a0.length c2, .slice oa4 a1.length c5].toArray w (fun e w' => e = .returned (.bool r) ∧ Ste lab 0 w lab w' ∧ True) := by
  refine enter Try.func19 rfl 62 rfl rfl ?_
  have cx := Cx.start t
  replace s3 := s3.keep Keeps.lin
  replace s6 := s6.keep Keeps.lin
  refine CW.sub (G := [(0, .slice oa1 a0.length c2), (1, .slice oa4 a1.length c5)]) ⟨rfl, rfl, trivial⟩ ?_
  unfold m_coresecref18_Same at hm
  refine CW.seq ?_
  refine CW.region ?_
  refine LW.assign wn rfl rfl ?_
  refine LW.nil ?_
  refine EW.seq_n ?_
  refine CW.seq ?_
  refine CW.seq ?_
  refine CW.region ?_
  refine LW.move wn rfl rfl ?_
  refine LW.len kUnd_22 wn rfl rfl ?_
  refine LW.move wn rfl rfl ?_
  refine LW.len kUnd_22 wn rfl rfl ?_
  refine LW.neq hm wn rfl rfl rfl ?_; clear hm; intro x7 hm
  refine LW.nil ?_
  refine EW.seq_n ?_
  refine CW.cond (b := x7) rfl (fun hb8 => ?_) (fun hb8 => ?_)
  · replace hm := cond_t hm hb8
    refine CW.seq ?_
    refine CW.region ?_
    refine LW.assign wn rfl rfl ?_
    refine LW.nil ?_
    refine EW.seq_n ?_
    refine CW.ret ?_
    refine EW.seq_r ?_
    obtain rfl := Option.some.inj hm
    exact EW.ret1 rfl rfl ⟨rfl, (cx.ste t), trivial⟩
  · replace hm := cond_f hm hb8
    refine CW.skip ?_
    refine EW.seq_n ?_
    refine CW.seq ?_
    refine CW.seq ?_
    refine CW.region ?_
    refine LW.move wn rfl rfl ?_
    refine LW.len kUnd_22 wn rfl rfl ?_
    refine LW.move wn rfl rfl ?_
    refine LW.nil ?_
    refine EW.seq_n ?_
    obtain ⟨s10, h11, hs12, hs13⟩ := bndS_some hm; clear hm
    refine CW.join_any (fun F_ w14 => ∃ (y9 : Unit) (lab15 : Lab) , s10 = .inr y9 ∧ F_ = [] ∧ Cx [] w lab w14 lab15 ∧ True) ?_ ?_
    · have hm := h11; clear h11
      refine CW.block ?_
      refine CW.sub (G := [(1, .slice oa4 a1.length c5), (12, .slice oa1 a0.length c2), (13, .int .i64 (a0.length : Int)), (14, .int .i64 0)]) ⟨rfl, rfl, rfl, rfl, trivial⟩ ?_
      refine CW.loop (fun n18 F_ w16 => ∃ (lab17 : Lab) (k19 : Nat) (rem20 : List S_api_Partial)  , n18 = rem20.length ∧ a0.drop k19 = rem20 ∧ F_ = [(1, .slice oa4 a1.length c5), (12, .slice oa1 a0.length c2), (13, .int .i64 (a0.length : Int)), (14, .int .i64 ((k19 : Nat) : Int))] ∧ Cx [] w lab w16 lab17 ∧ SL R_api_Partial lab17 w16 oa4 c5 a1 ∧ SL R_api_Partial lab17 w16 oa1 c2 a0 ∧ m_coresecref18_Same_l1 a1 rem20 k19 = some s10) _ ⟨_, 0, a0, rfl, rfl, rfl, cx, s6, s3, hm⟩ ?_
      rintro n18 _ w16 ⟨lab17, k19, rem20, rfl, hd, rfl, cx, s6, s3, hm⟩
      rcases rem20 with _ | ⟨x21, rem20⟩
      · rw [m_coresecref18_Same_l1] at hm; have hlt := drop_nil hd
        refine CW.seq ?_
        refine CW.region ?_
        refine LW.lss_lit hlt wn rfl rfl rfl ?_
        refine LW.nil ?_
        refine EW.seq_n ?_
        refine CW.seq ?_
        refine CW.cond_f rfl ?_
        refine CW.exit ?_
        refine EW.seq_x ?_
        refine EW.join_x ?_
        refine EW.block_x ?_
        obtain rfl := Option.some.inj hm
        refine EW.sub (G := []) trivial ?_
        exact EW.join_n ⟨(), _, rfl, rfl, cx, trivial⟩
      · rw [m_coresecref18_Same_l1] at hm; obtain ⟨hlt, hix, hd, hlt2⟩ := drop_cons hd
        refine CW.seq ?_
        refine CW.region ?_
        refine LW.lss_lit hlt wn rfl rfl rfl ?_
        refine LW.nil ?_
        refine EW.seq_n ?_
        refine CW.seq ?_
        refine CW.cond_t rfl ?_
        refine CW.skip ?_
        refine EW.seq_n ?_
        refine CW.seq ?_
        refine CW.block ?_
        refine CW.seq ?_
        refine CW.region ?_
        refine LW.move wn rfl rfl ?_
        refine LW.index (bnd_ret hix) s3 kSl_22 wn rfl rfl rfl ?_; intro x_ p22 cs23 hx_ hr24 ha25; cases hx_
        obtain ⟨oa26, c27, oa29, c30, rfl, s28, s31, _⟩ := hr24
        refine LW.loadAn ha25 kAgg_63 rfl wn rfl rfl ?_
        refine LW.alloc 16 [.int .i64 0, .slice none 0 0, .slice none 0 0, .int .i64 0] kZero_63 rfl cx.top wn rfl ?_
        intro g32 lab33 w34 e35 b36
        replace cx := cx.step e35 rfl
        replace s6 := s6.step e35
        replace s3 := s3.step e35
        replace ha25 := ha25.step e35
        replace s28 := s28.step e35
        replace s31 := s31.step e35
        clear e35
        refine LW.assign wn rfl rfl ?_
        refine LW.storeBn [.int .i64 x21.Peer, .slice oa26 x21.Key.length c27, .slice oa29 x21.Data.length c30, .int .i64 x21.Until] [.int .i64 x21.Peer, .slice oa26 x21.Key.length c27, .slice oa29 x21.Data.length c30, .int .i64 x21.Until] b36 cx.top rfl kAgg_63 rfl rfl rfl rfl wn rfl rfl ?_
        intro w37 e38 b39; clear b36
        replace cx := cx.step e38 rfl
        replace s6 := s6.step e38
        replace s28 := s28.step e38
        replace s31 := s31.step e38
        replace s3 := s3.step e38
        replace ha25 := ha25.step e38
        clear e38
        refine LW.nil ?_
        refine EW.seq_n ?_
        refine CW.seq ?_
        obtain ⟨y40, h41, hm_⟩ := bnd_some hm; clear hm
        refine CW.join_any (fun F_ w42 => ∃ (lab43 : Lab) , F_ = [(1, .slice oa4 a1.length c5), (12, .slice oa1 a0.length c2), (13, .int .i64 (a0.length : Int)), (14, .int .i64 ((k19 : Nat) : Int)), (60, .bool y40)] ∧ Cx [] w lab w42 lab43 ∧ SL R_api_Partial lab43 w42 oa4 c5 a1 ∧ SL R_api_Partial lab43 w42 oa1 c2 a0 ∧ True) ?_ ?_
        · have hm := h41; clear h41
          obtain ⟨x51, hx_x51, hm_⟩ := bnd_some hm; clear hm; have hm := hm_; clear hm_
          obtain ⟨x78, hx_x78, hm_⟩ := letm_some hm; clear hm; have hm := hm_; clear hm_
          rcases Bool.eq_false_or_eq_true x78 with hb80 | hb80
          · replace hm := cond_t hm hb80
            refine CW.sub (G := [(1, .slice oa4 a1.length c5), (5, .int .i64 ((k19 : Nat) : Int)), (6, .pointer (some ⟨g32, 0, none⟩)), (12, .slice oa1 a0.length c2), (13, .int .i64 (a0.length : Int)), (14, .int .i64 ((k19 : Nat) : Int))]) ⟨rfl, rfl, rfl, rfl, rfl, rfl, trivial⟩ ?_
            refine CW.drawL (fun i_ => []) (fun i_ => by (try dsimp only); (repeat' split) <;> rfl) kMix_ 42 (by kernel_rfl) cx.top ?_
            intro w89 e90
            replace cx := cx.step e90 rfl
            replace s6 := s6.step e90
            replace b39 := b39.step e90 rfl
            replace s28 := s28.step e90
            replace s31 := s31.step e90
            replace s3 := s3.step e90
            clear e90
            refine ⟨[(fun L_ lab_ w_ v_ => v_ = .pointer (some ⟨g32, 0, none⟩) ∧ True),
    (fun L_ lab_ w_ v_ => v_ = .int .i64 x21.Peer ∧ True),
    (fun L_ lab_ w_ v_ => v_ = .slice oa4 a1.length c5 ∧ True),
    (fun L_ lab_ w_ v_ => v_ = .int .i64 ((k19 : Nat) : Int) ∧ True),
    (fun L_ lab_ w_ v_ => ∃ (p47 : Addr) (oa52 : Option Addr) (c53 : Nat) (oa55 : Option Addr) (c56 : Nat), v_ = .pointer (some p47) ∧ At lab_ w_ p47 [.int .i64 x51.Peer, .slice oa52 x51.Key.length c53, .slice oa55 x51.Data.length c56, .int .i64 x51.Until] ∧ SL Rep.u8 lab_ w_ oa52 c53 x51.Key ∧ SL Rep.u8 lab_ w_ oa55 c56 x51.Data ∧ True),
    (fun L_ lab_ w_ v_ => ∃ (p58 : Addr) (oa60 : Option Addr) (c61 : Nat) (oa63 : Option Addr) (c64 : Nat), v_ = .pointer (some p58) ∧ At lab_ w_ p58 [.int .i64 x51.Peer, .slice oa60 x51.Key.length c61, .slice oa63 x51.Data.length c64, .int .i64 x51.Until] ∧ SL Rep.u8 lab_ w_ oa60 c61 x51.Key ∧ SL Rep.u8 lab_ w_ oa63 c64 x51.Data ∧ True),
    (fun L_ lab_ w_ v_ => v_ = .int .i64 x51.Peer ∧ True),
    (fun L_ lab_ w_ v_ => v_ = .bool x78 ∧ True),
    (fun L_ lab_ w_ v_ => v_ = .bool x78 ∧ True),
    (fun L_ lab_ w_ v_ => v_ = undef ∧ True),
    (fun L_ lab_ w_ v_ => v_ = undef ∧ True),
    (fun L_ lab_ w_ v_ => v_ = undef ∧ True),
    (fun L_ lab_ w_ v_ => v_ = undef ∧ True),
    (fun L_ lab_ w_ v_ => v_ = undef ∧ True),
    (fun L_ lab_ w_ v_ => v_ = undef ∧ True),
    (fun L_ lab_ w_ v_ => v_ = undef ∧ True),
    (fun L_ lab_ w_ v_ => v_ = undef ∧ True),
    (fun L_ lab_ w_ v_ => v_ = .bool true ∧ True),
    (fun L_ lab_ w_ v_ => v_ = .bool true ∧ True),
    (fun L_ lab_ w_ v_ => v_ = undef ∧ True),
    (fun L_ lab_ w_ v_ => v_ = undef ∧ True),
    (fun L_ lab_ w_ v_ => v_ = undef ∧ True),
    (fun L_ lab_ w_ v_ => v_ = undef ∧ True),
    (fun L_ lab_ w_ v_ => v_ = undef ∧ True),
    (fun L_ lab_ w_ v_ => v_ = undef ∧ True),
    (fun L_ lab_ w_ v_ => v_ = undef ∧ True),
    (fun L_ lab_ w_ v_ => v_ = undef ∧ True),
    (fun L_ lab_ w_ v_ => v_ = undef ∧ True),
    (fun L_ lab_ w_ v_ => v_ = undef ∧ True),
    (fun L_ lab_ w_ v_ => v_ = .bool true ∧ True),
    (fun L_ lab_ w_ v_ => v_ = .bool true ∧ True),
    (fun L_ lab_ w_ v_ => v_ = undef ∧ True),
    (fun L_ lab_ w_ v_ => v_ = undef ∧ True),
    (fun L_ lab_ w_ v_ => v_ = undef ∧ True),
    (fun L_ lab_ w_ v_ => v_ = undef ∧ True),
    (fun L_ lab_ w_ v_ => v_ = undef ∧ True),
    (fun L_ lab_ w_ v_ => v_ = undef ∧ True),
    (fun L_ lab_ w_ v_ => v_ = undef ∧ True),
    (fun L_ lab_ w_ v_ => v_ = undef ∧ True),
    (fun L_ lab_ w_ v_ => v_ = undef ∧ True),
    (fun L_ lab_ w_ v_ => v_ = undef ∧ True),
    (fun L_ lab_ w_ v_ => v_ = .bool true ∧ True)], (fun L_ lab_ w_ => Cx [] w lab w_ lab_ ∧ SL R_api_Partial lab_ w_ oa4 c5 a1 ∧ Box lab_ w_ 16 g32 63 [.int .i64 x21.Peer, .slice oa26 x21.Key.length c27, .slice oa29 x21.Data.length c30, .int .i64 x21.Until] ∧ SL Rep.u8 lab_ w_ oa26 c27 x21.Key ∧ SL Rep.u8 lab_ w_ oa29 c30 x21.Data ∧ SL R_api_Partial lab_ w_ oa1 c2 a0 ∧ True), ?_, ⟨cx, s6, b39, s28, s31, s3, trivial⟩, ?_, ?_⟩
            · exact ⟨by rintro i_ L_ lab_ w_ lab2_ w2_ v_ hne_ hd_ hk_ hp_ ⟨hv_, _⟩; exact ⟨hv_, trivial⟩, by rintro i_ L_ lab_ w_ lab2_ w2_ v_ hne_ hd_ hk_ hp_ ⟨hv_, _⟩; exact ⟨hv_, trivial⟩, by rintro i_ L_ lab_ w_ lab2_ w2_ v_ hne_ hd_ hk_ hp_ ⟨hv_, _⟩; exact ⟨hv_, trivial⟩, by rintro i_ L_ lab_ w_ lab2_ w2_ v_ hne_ hd_ hk_ hp_ ⟨hv_, _⟩; exact ⟨hv_, trivial⟩, by rintro i_ L_ lab_ w_ lab2_ w2_ v_ hne_ hd_ hk_ hp_ ⟨p47, oa52, c53, oa55, c56, hv_, ha50, s54, s57, _⟩; exact ⟨p47, oa52, c53, oa55, c56, hv_, (ha50.keep hp_), (s54.keep hp_), (s57.keep hp_), trivial⟩, by rintro i_ L_ lab_ w_ lab2_ w2_ v_ hne_ hd_ hk_ hp_ ⟨p58, oa60, c61, oa63, c64, hv_, ha59, s62, s65, _⟩; exact ⟨p58, oa60, c61, oa63, c64, hv_, (ha59.keep hp_), (s62.keep hp_), (s65.keep hp_), trivial⟩, by rintro i_ L_ lab_ w_ lab2_ w2_ v_ hne_ hd_ hk_ hp_ ⟨hv_, _⟩; exact ⟨hv_, trivial⟩, by rintro i_ L_ lab_ w_ lab2_ w2_ v_ hne_ hd_ hk_ hp_ ⟨hv_, _⟩; exact ⟨hv_, trivial⟩, by rintro i_ L_ lab_ w_ lab2_ w2_ v_ hne_ hd_ hk_ hp_ ⟨hv_, _⟩; exact ⟨hv_, trivial⟩, by rintro i_ L_ lab_ w_ lab2_ w2_ v_ hne_ hd_ hk_ hp_ ⟨hv_, _⟩; exact ⟨hv_, trivial⟩, by rintro i_ L_ lab_ w_ lab2_ w2_ v_ hne_ hd_ hk_ hp_ ⟨hv_, _⟩; exact ⟨hv_, trivial⟩, by rintro i_ L_ lab_ w_ lab2_ w2_ v_ hne_ hd_ hk_ hp_ ⟨hv_, _⟩; exact ⟨hv_, trivial⟩, by rintro i_ L_ lab_ w_ lab2_ w2_ v_ hne_ hd_ hk_ hp_ ⟨hv_, _⟩; exact ⟨hv_, trivial⟩, by rintro i_ L_ lab_ w_ lab2_ w2_ v_ hne_ hd_ hk_ hp_ ⟨hv_, _⟩; exact ⟨hv_, trivial⟩, by rintro i_ L_ lab_ w_ lab2_ w2_ v_ hne_ hd_ hk_ hp_ ⟨hv_, _⟩; exact ⟨hv_, trivial⟩, by rintro i_ L_ lab_ w_ lab2_ w2_ v_ hne_ hd_ hk_ hp_ ⟨hv_, _⟩; exact ⟨hv_, trivial⟩, by rintro i_ L_ lab_ w_ lab2_ w2_ v_ hne_ hd_ hk_ hp_ ⟨hv_, _⟩; exact ⟨hv_, trivial⟩, by rintro i_ L_ lab_ w_ lab2_ w2_ v_ hne_ hd_ hk_ hp_ ⟨hv_, _⟩; exact ⟨hv_, trivial⟩, by rintro i_ L_ lab_ w_ lab2_ w2_ v_ hne_ hd_ hk_ hp_ ⟨hv_, _⟩; exact ⟨hv_, trivial⟩, by rintro i_ L_ lab_ w_ lab2_ w2_ v_ hne_ hd_ hk_ hp_ ⟨hv_, _⟩; exact ⟨hv_, trivial⟩, by rintro i_ L_ lab_ w_ lab2_ w2_ v_ hne_ hd_ hk_ hp_ ⟨hv_, _⟩; exact ⟨hv_, trivial⟩, by rintro i_ L_ lab_ w_ lab2_ w2_ v_ hne_ hd_ hk_ hp_ ⟨hv_, _⟩; exact ⟨hv_, trivial⟩, by rintro i_ L_ lab_ w_ lab2_ w2_ v_ hne_ hd_ hk_ hp_ ⟨hv_, _⟩; exact ⟨hv_, trivial⟩, by rintro i_ L_ lab_ w_ lab2_ w2_ v_ hne_ hd_ hk_ hp_ ⟨hv_, _⟩; exact ⟨hv_, trivial⟩, by rintro i_ L_ lab_ w_ lab2_ w2_ v_ hne_ hd_ hk_ hp_ ⟨hv_, _⟩; exact ⟨hv_, trivial⟩, by rintro i_ L_ lab_ w_ lab2_ w2_ v_ hne_ hd_ hk_ hp_ ⟨hv_, _⟩; exact ⟨hv_, trivial⟩, by rintro i_ L_ lab_ w_ lab2_ w2_ v_ hne_ hd_ hk_ hp_ ⟨hv_, _⟩; exact ⟨hv_, trivial⟩, by rintro i_ L_ lab_ w_ lab2_ w2_ v_ hne_ hd_ hk_ hp_ ⟨hv_, _⟩; exact ⟨hv_, trivial⟩, by rintro i_ L_ lab_ w_ lab2_ w2_ v_ hne_ hd_ hk_ hp_ ⟨hv_, _⟩; exact ⟨hv_, trivial⟩, by rintro i_ L_ lab_ w_ lab2_ w2_ v_ hne_ hd_ hk_ hp_ ⟨hv_, _⟩; exact ⟨hv_, trivial⟩, by rintro i_ L_ lab_ w_ lab2_ w2_ v_ hne_ hd_ hk_ hp_ ⟨hv_, _⟩; exact ⟨hv_, trivial⟩, by rintro i_ L_ lab_ w_ lab2_ w2_ v_ hne_ hd_ hk_ hp_ ⟨hv_, _⟩; exact ⟨hv_, trivial⟩, by rintro i_ L_ lab_ w_ lab2_ w2_ v_ hne_ hd_ hk_ hp_ ⟨hv_, _⟩; exact ⟨hv_, trivial⟩, by rintro i_ L_ lab_ w_ lab2_ w2_ v_ hne_ hd_ hk_ hp_ ⟨hv_, _⟩; exact ⟨hv_, trivial⟩, by rintro i_ L_ lab_ w_ lab2_ w2_ v_ hne_ hd_ hk_ hp_ ⟨hv_, _⟩; exact ⟨hv_, trivial⟩, by rintro i_ L_ lab_ w_ lab2_ w2_ v_ hne_ hd_ hk_ hp_ ⟨hv_, _⟩; exact ⟨hv_, trivial⟩, by rintro i_ L_ lab_ w_ lab2_ w2_ v_ hne_ hd_ hk_ hp_ ⟨hv_, _⟩; exact ⟨hv_, trivial⟩, by rintro i_ L_ lab_ w_ lab2_ w2_ v_ hne_ hd_ hk_ hp_ ⟨hv_, _⟩; exact ⟨hv_, trivial⟩, by rintro i_ L_ lab_ w_ lab2_ w2_ v_ hne_ hd_ hk_ hp_ ⟨hv_, _⟩; exact ⟨hv_, trivial⟩, by rintro i_ L_ lab_ w_ lab2_ w2_ v_ hne_ hd_ hk_ hp_ ⟨hv_, _⟩; exact ⟨hv_, trivial⟩, by rintro i_ L_ lab_ w_ lab2_ w2_ v_ hne_ hd_ hk_ hp_ ⟨hv_, _⟩; exact ⟨hv_, trivial⟩, by rintro i_ L_ lab_ w_ lab2_ w2_ v_ hne_ hd_ hk_ hp_ ⟨hv_, _⟩; exact ⟨hv_, trivial⟩, trivial⟩
            · refine (ob_succ (ob_succ (ob_succ (ob_succ (ob_succ (ob_succ (ob_succ (ob_succ (ob_succ (ob_succ (ob_succ (ob_succ (ob_succ (ob_succ (ob_succ (ob_succ (ob_succ (ob_succ (ob_succ (ob_succ (ob_succ (ob_succ (ob_succ (ob_succ (ob_succ (ob_succ (ob_succ (ob_succ (ob_succ (ob_succ (ob_succ (ob_succ (ob_succ (ob_succ (ob_succ (ob_succ (ob_succ (ob_succ (ob_succ (ob_succ (ob_succ (ob_succ ob_nil ?_) ?_) ?_) ?_) ?_) ?_) ?_) ?_) ?_) ?_) ?_) ?_) ?_) ?_) ?_) ?_) ?_) ?_) ?_) ?_) ?_) ?_) ?_) ?_) ?_) ?_) ?_) ?_) ?_) ?_) ?_) ?_) ?_) ?_) ?_) ?_) ?_) ?_) ?_) ?_) ?_) ?_)
              · intro o_ L_ F_ lab_ w_ ho_ hL_ hw_ hcl_ hb_ hr_ hq_; obtain rfl := Option.some.inj (ho_ : some _ = some o_); obtain ⟨cx, s6, b39, s28, s31, s3, _⟩ := hq_
                have hl6 := hb_ 6 _ rfl
                refine LW.fldB 0 kFld_63_0 rfl wn rfl hl6 ?_
                refine LW.nil ?_; intro a_ ha_
                exact ⟨rfl, _, _, ha_, ⟨rfl, trivial⟩, Ke.refl, cx, s6, b39, s28, s31, s3, trivial⟩
              · intro o_ L_ F_ lab_ w_ ho_ hL_ hw_ hcl_ hb_ hr_ hq_; obtain rfl := Option.some.inj (ho_ : some _ = some o_); obtain ⟨cx, s6, b39, s28, s31, s3, _⟩ := hq_
                obtain ⟨q44, hl19, rfl, _⟩ := hr_ 0 (by decide) (hw_ 0 (by kernel_rfl))
                replace hl19 : Gk.look F_ 19 = some (.pointer (some ⟨g32, 0, none⟩)) := hl19
                refine LW.loadB1 b39 kOne_3 rfl wn rfl hl19 ?_
                refine LW.nil ?_; intro a_ ha_
                exact ⟨rfl, _, _, ha_, ⟨rfl, trivial⟩, Ke.refl, cx, s6, b39, s28, s31, s3, trivial⟩
              · exact ob_moveb (v := .slice oa4 a1.length c5) rfl (fun _ h_ => h_ _ _ rfl) rfl (fun _ _ _ => ⟨rfl, trivial⟩) (fun _ _ _ h_ => h_)
              · exact ob_moveb (v := .int .i64 ((k19 : Nat) : Int)) rfl (fun _ h_ => h_ _ _ rfl) rfl (fun _ _ _ => ⟨rfl, trivial⟩) (fun _ _ _ h_ => h_)
              · intro o_ L_ F_ lab_ w_ ho_ hL_ hw_ hcl_ hb_ hr_ hq_; obtain rfl := Option.some.inj (ho_ : some _ = some o_); obtain ⟨cx, s6, b39, s28, s31, s3, _⟩ := hq_
                obtain ⟨q45, hl21, rfl, _⟩ := hr_ 2 (by decide) (hw_ 2 (by kernel_rfl))
                replace hl21 : Gk.look F_ 21 = some (.slice oa4 a1.length c5) := hl21
                obtain ⟨q46, hl22, rfl, _⟩ := hr_ 3 (by decide) (hw_ 3 (by kernel_rfl))
                replace hl22 : Gk.look F_ 22 = some (.int .i64 ((k19 : Nat) : Int)) := hl22
                refine LW.index (bnd_ret hx_x51) s6 kSl_22 wn rfl hl21 hl22 ?_; intro x_ p47 cs48 hx_ hr49 ha50; cases hx_
                obtain ⟨oa52, c53, oa55, c56, rfl, s54, s57, _⟩ := hr49
                refine LW.nil ?_; intro a_ ha_
                exact ⟨rfl, _, _, ha_, ⟨p47, oa52, c53, oa55, c56, rfl, ha50, s54, s57, trivial⟩, Ke.refl, cx, s6, b39, s28, s31, s3, trivial⟩
              · intro o_ L_ F_ lab_ w_ ho_ hL_ hw_ hcl_ hb_ hr_ hq_; obtain rfl := Option.some.inj (ho_ : some _ = some o_); obtain ⟨cx, s6, b39, s28, s31, s3, _⟩ := hq_
                obtain ⟨q66, hl23, p58, oa60, c61, oa63, c64, rfl, ha59, s62, s65, _⟩ := hr_ 4 (by decide) (hw_ 4 (by kernel_rfl))
                replace hl23 : Gk.look F_ 23 = some (.pointer (some p58)) := hl23
                refine LW.fldA kFld_63_0 wn rfl hl23 ?_
                refine LW.nil ?_; intro a_ ha_
                exact ⟨rfl, _, _, ha_, ⟨p58, oa60, c61, oa63, c64, rfl, ha59, s62, s65, trivial⟩, Ke.refl, cx, s6, b39, s28, s31, s3, trivial⟩
              · intro o_ L_ F_ lab_ w_ ho_ hL_ hw_ hcl_ hb_ hr_ hq_; obtain rfl := Option.some.inj (ho_ : some _ = some o_); obtain ⟨cx, s6, b39, s28, s31, s3, _⟩ := hq_
                obtain ⟨q75, hl24, p67, oa69, c70, oa72, c73, rfl, ha68, s71, s74, _⟩ := hr_ 5 (by decide) (hw_ 5 (by kernel_rfl))
                replace hl24 : Gk.look F_ 24 = some (.pointer (some p67)) := hl24
                refine LW.loadA1 (ha68.cell 0 rfl) kOne_3 wn rfl hl24 ?_
                refine LW.nil ?_; intro a_ ha_
                exact ⟨rfl, _, _, ha_, ⟨rfl, trivial⟩, Ke.refl, cx, s6, b39, s28, s31, s3, trivial⟩
              · intro o_ L_ F_ lab_ w_ ho_ hL_ hw_ hcl_ hb_ hr_ hq_; obtain rfl := Option.some.inj (ho_ : some _ = some o_); obtain ⟨cx, s6, b39, s28, s31, s3, _⟩ := hq_
                obtain ⟨q76, hl20, rfl, _⟩ := hr_ 1 (by decide) (hw_ 1 (by kernel_rfl))
                replace hl20 : Gk.look F_ 20 = some (.int .i64 x21.Peer) := hl20
                obtain ⟨q77, hl25, rfl, _⟩ := hr_ 6 (by decide) (hw_ 6 (by kernel_rfl))
                replace hl25 : Gk.look F_ 25 = some (.int .i64 x51.Peer) := hl25
                refine LW.neq (letm_eq hx_x78) wn rfl hl20 hl25 ?_; intro x_ hx_; cases hx_
                refine LW.nil ?_; intro a_ ha_
                exact ⟨rfl, _, _, ha_, ⟨rfl, trivial⟩, Ke.refl, cx, s6, b39, s28, s31, s3, trivial⟩
              · intro o_ L_ F_ lab_ w_ ho_ hL_ hw_ hcl_ hb_ hr_ hq_; obtain rfl := Option.some.inj (ho_ : some _ = some o_); obtain ⟨cx, s6, b39, s28, s31, s3, _⟩ := hq_
                obtain ⟨q79, hl26, rfl, _⟩ := hr_ 7 (by decide) (hw_ 7 (by kernel_rfl))
                replace hl26 : Gk.look F_ 26 = some (.bool x78) := hl26
                refine LW.move wn rfl hl26 ?_
                refine LW.nil ?_; intro a_ ha_
                exact ⟨rfl, _, _, ha_, ⟨rfl, trivial⟩, Ke.refl, cx, s6, b39, s28, s31, s3, trivial⟩
              · exact ob_skip (b' := true) 8 rfl (by kernel_rfl) (by decide) ⟨_, rfl⟩ (fun _ _ _ _ h_ => .inl (h_.1.trans (congrArg Value.bool hb80))) rfl rfl (fun _ _ _ => ⟨rfl, trivial⟩) (fun _ _ _ h_ => h_)
              · exact ob_skip (b' := true) 8 rfl (by kernel_rfl) (by decide) ⟨_, rfl⟩ (fun _ _ _ _ h_ => .inl (h_.1.trans (congrArg Value.bool hb80))) rfl rfl (fun _ _ _ => ⟨rfl, trivial⟩) (fun _ _ _ h_ => h_)
              · exact ob_skip (b' := true) 8 rfl (by kernel_rfl) (by decide) ⟨_, rfl⟩ (fun _ _ _ _ h_ => .inl (h_.1.trans (congrArg Value.bool hb80))) rfl rfl (fun _ _ _ => ⟨rfl, trivial⟩) (fun _ _ _ h_ => h_)
              · exact ob_skip (b' := true) 8 rfl (by kernel_rfl) (by decide) ⟨_, rfl⟩ (fun _ _ _ _ h_ => .inl (h_.1.trans (congrArg Value.bool hb80))) rfl rfl (fun _ _ _ => ⟨rfl, trivial⟩) (fun _ _ _ h_ => h_)
              · exact ob_skip (b' := true) 8 rfl (by kernel_rfl) (by decide) ⟨_, rfl⟩ (fun _ _ _ _ h_ => .inl (h_.1.trans (congrArg Value.bool hb80))) rfl rfl (fun _ _ _ => ⟨rfl, trivial⟩) (fun _ _ _ h_ => h_)
              · exact ob_skip (b' := true) 8 rfl (by kernel_rfl) (by decide) ⟨_, rfl⟩ (fun _ _ _ _ h_ => .inl (h_.1.trans (congrArg Value.bool hb80))) rfl rfl (fun _ _ _ => ⟨rfl, trivial⟩) (fun _ _ _ h_ => h_)
              · exact ob_skip (b' := true) 8 rfl (by kernel_rfl) (by decide) ⟨_, rfl⟩ (fun _ _ _ _ h_ => .inl (h_.1.trans (congrArg Value.bool hb80))) rfl rfl (fun _ _ _ => ⟨rfl, trivial⟩) (fun _ _ _ h_ => h_)
              · exact ob_skip (b' := true) 8 rfl (by kernel_rfl) (by decide) ⟨_, rfl⟩ (fun _ _ _ _ h_ => .inl (h_.1.trans (congrArg Value.bool hb80))) rfl rfl (fun _ _ _ => ⟨rfl, trivial⟩) (fun _ _ _ h_ => h_)
              · intro o_ L_ F_ lab_ w_ ho_ hL_ hw_ hcl_ hb_ hr_ hq_; obtain rfl := Option.some.inj (ho_ : some _ = some o_); obtain ⟨cx, s6, b39, s28, s31, s3, _⟩ := hq_
                obtain ⟨q81, hl27, rfl, _⟩ := hr_ 8 (by decide) (hw_ 8 (by kernel_rfl))
                replace hl27 : Gk.look F_ 27 = some (.bool x78) := hl27
                obtain ⟨q82, hl35, rfl, _⟩ := hr_ 16 (by decide) (hw_ 16 (by kernel_rfl))
                replace hl35 : Gk.look F_ 35 = some (undef) := hl35
                refine LW.pick_t wn rfl (bk hl27 hb80) rfl ?_
                refine LW.nil ?_; intro a_ ha_
                exact ⟨rfl, _, _, ha_, ⟨rfl, trivial⟩, Ke.refl, cx, s6, b39, s28, s31, s3, trivial⟩
              · intro o_ L_ F_ lab_ w_ ho_ hL_ hw_ hcl_ hb_ hr_ hq_; obtain rfl := Option.some.inj (ho_ : some _ = some o_); obtain ⟨cx, s6, b39, s28, s31, s3, _⟩ := hq_
                obtain ⟨q83, hl36, rfl, _⟩ := hr_ 17 (by decide) (hw_ 17 (by kernel_rfl))
                replace hl36 : Gk.look F_ 36 = some (.bool true) := hl36
                refine LW.move wn rfl hl36 ?_
                refine LW.nil ?_; intro a_ ha_
                exact ⟨rfl, _, _, ha_, ⟨rfl, trivial⟩, Ke.refl, cx, s6, b39, s28, s31, s3, trivial⟩
              · exact ob_skip (b' := true) 18 rfl (by kernel_rfl) (by decide) ⟨_, rfl⟩ (fun _ _ _ _ h_ => .inl h_.1) rfl rfl (fun _ _ _ => ⟨rfl, trivial⟩) (fun _ _ _ h_ => h_)
              · exact ob_skip (b' := true) 18 rfl (by kernel_rfl) (by decide) ⟨_, rfl⟩ (fun _ _ _ _ h_ => .inl h_.1) rfl rfl (fun _ _ _ => ⟨rfl, trivial⟩) (fun _ _ _ h_ => h_)
              · exact ob_skip (b' := true) 18 rfl (by kernel_rfl) (by decide) ⟨_, rfl⟩ (fun _ _ _ _ h_ => .inl h_.1) rfl rfl (fun _ _ _ => ⟨rfl, trivial⟩) (fun _ _ _ h_ => h_)
              · exact ob_skip (b' := true) 18 rfl (by kernel_rfl) (by decide) ⟨_, rfl⟩ (fun _ _ _ _ h_ => .inl h_.1) rfl rfl (fun _ _ _ => ⟨rfl, trivial⟩) (fun _ _ _ h_ => h_)
              · exact ob_skip (b' := true) 18 rfl (by kernel_rfl) (by decide) ⟨_, rfl⟩ (fun _ _ _ _ h_ => .inl h_.1) rfl rfl (fun _ _ _ => ⟨rfl, trivial⟩) (fun _ _ _ h_ => h_)
              · exact ob_skip (b' := true) 18 rfl (by kernel_rfl) (by decide) ⟨_, rfl⟩ (fun _ _ _ _ h_ => .inl h_.1) rfl rfl (fun _ _ _ => ⟨rfl, trivial⟩) (fun _ _ _ h_ => h_)
              · exact ob_skip (b' := true) 18 rfl (by kernel_rfl) (by decide) ⟨_, rfl⟩ (fun _ _ _ _ h_ => .inl h_.1) rfl rfl (fun _ _ _ => ⟨rfl, trivial⟩) (fun _ _ _ h_ => h_)
              · exact ob_skip (b' := true) 18 rfl (by kernel_rfl) (by decide) ⟨_, rfl⟩ (fun _ _ _ _ h_ => .inl h_.1) rfl rfl (fun _ _ _ => ⟨rfl, trivial⟩) (fun _ _ _ h_ => h_)
              · exact ob_skip (b' := true) 18 rfl (by kernel_rfl) (by decide) ⟨_, rfl⟩ (fun _ _ _ _ h_ => .inl h_.1) rfl rfl (fun _ _ _ => ⟨rfl, trivial⟩) (fun _ _ _ h_ => h_)
              · exact ob_skip (b' := true) 18 rfl (by kernel_rfl) (by decide) ⟨_, rfl⟩ (fun _ _ _ _ h_ => .inl h_.1) rfl rfl (fun _ _ _ => ⟨rfl, trivial⟩) (fun _ _ _ h_ => h_)
              · intro o_ L_ F_ lab_ w_ ho_ hL_ hw_ hcl_ hb_ hr_ hq_; obtain rfl := Option.some.inj (ho_ : some _ = some o_); obtain ⟨cx, s6, b39, s28, s31, s3, _⟩ := hq_
                obtain ⟨q84, hl37, rfl, _⟩ := hr_ 18 (by decide) (hw_ 18 (by kernel_rfl))
                replace hl37 : Gk.look F_ 37 = some (.bool true) := hl37
                obtain ⟨q85, hl47, rfl, _⟩ := hr_ 28 (by decide) (hw_ 28 (by kernel_rfl))
                replace hl47 : Gk.look F_ 47 = some (undef) := hl47
                refine LW.pick_t wn rfl hl37 rfl ?_
                refine LW.nil ?_; intro a_ ha_
                exact ⟨rfl, _, _, ha_, ⟨rfl, trivial⟩, Ke.refl, cx, s6, b39, s28, s31, s3, trivial⟩
              · intro o_ L_ F_ lab_ w_ ho_ hL_ hw_ hcl_ hb_ hr_ hq_; obtain rfl := Option.some.inj (ho_ : some _ = some o_); obtain ⟨cx, s6, b39, s28, s31, s3, _⟩ := hq_
                obtain ⟨q86, hl48, rfl, _⟩ := hr_ 29 (by decide) (hw_ 29 (by kernel_rfl))
                replace hl48 : Gk.look F_ 48 = some (.bool true) := hl48
                refine LW.move wn rfl hl48 ?_
                refine LW.nil ?_; intro a_ ha_
                exact ⟨rfl, _, _, ha_, ⟨rfl, trivial⟩, Ke.refl, cx, s6, b39, s28, s31, s3, trivial⟩
              · exact ob_skip (b' := true) 30 rfl (by kernel_rfl) (by decide) ⟨_, rfl⟩ (fun _ _ _ _ h_ => .inl h_.1) rfl rfl (fun _ _ _ => ⟨rfl, trivial⟩) (fun _ _ _ h_ => h_)
              · exact ob_skip (b' := true) 30 rfl (by kernel_rfl) (by decide) ⟨_, rfl⟩ (fun _ _ _ _ h_ => .inl h_.1) rfl rfl (fun _ _ _ => ⟨rfl, trivial⟩) (fun _ _ _ h_ => h_)
              · exact ob_skip (b' := true) 30 rfl (by kernel_rfl) (by decide) ⟨_, rfl⟩ (fun _ _ _ _ h_ => .inl h_.1) rfl rfl (fun _ _ _ => ⟨rfl, trivial⟩) (fun _ _ _ h_ => h_)
              · exact ob_skip (b' := true) 30 rfl (by kernel_rfl) (by decide) ⟨_, rfl⟩ (fun _ _ _ _ h_ => .inl h_.1) rfl rfl (fun _ _ _ => ⟨rfl, trivial⟩) (fun _ _ _ h_ => h_)
              · exact ob_skip (b' := true) 30 rfl (by kernel_rfl) (by decide) ⟨_, rfl⟩ (fun _ _ _ _ h_ => .inl h_.1) rfl rfl (fun _ _ _ => ⟨rfl, trivial⟩) (fun _ _ _ h_ => h_)
              · exact ob_skip (b' := true) 30 rfl (by kernel_rfl) (by decide) ⟨_, rfl⟩ (fun _ _ _ _ h_ => .inl h_.1) rfl rfl (fun _ _ _ => ⟨rfl, trivial⟩) (fun _ _ _ h_ => h_)
              · exact ob_skip (b' := true) 30 rfl (by kernel_rfl) (by decide) ⟨_, rfl⟩ (fun _ _ _ _ h_ => .inl h_.1) rfl rfl (fun _ _ _ => ⟨rfl, trivial⟩) (fun _ _ _ h_ => h_)
              · exact ob_skip (b' := true) 30 rfl (by kernel_rfl) (by decide) ⟨_, rfl⟩ (fun _ _ _ _ h_ => .inl h_.1) rfl rfl (fun _ _ _ => ⟨rfl, trivial⟩) (fun _ _ _ h_ => h_)
              · exact ob_skip (b' := true) 30 rfl (by kernel_rfl) (by decide) ⟨_, rfl⟩ (fun _ _ _ _ h_ => .inl h_.1) rfl rfl (fun _ _ _ => ⟨rfl, trivial⟩) (fun _ _ _ h_ => h_)
              · exact ob_skip (b' := true) 30 rfl (by kernel_rfl) (by decide) ⟨_, rfl⟩ (fun _ _ _ _ h_ => .inl h_.1) rfl rfl (fun _ _ _ => ⟨rfl, trivial⟩) (fun _ _ _ h_ => h_)
              · intro o_ L_ F_ lab_ w_ ho_ hL_ hw_ hcl_ hb_ hr_ hq_; obtain rfl := Option.some.inj (ho_ : some _ = some o_); obtain ⟨cx, s6, b39, s28, s31, s3, _⟩ := hq_
                obtain ⟨q87, hl49, rfl, _⟩ := hr_ 30 (by decide) (hw_ 30 (by kernel_rfl))
                replace hl49 : Gk.look F_ 49 = some (.bool true) := hl49
                obtain ⟨q88, hl59, rfl, _⟩ := hr_ 40 (by decide) (hw_ 40 (by kernel_rfl))
                replace hl59 : Gk.look F_ 59 = some (undef) := hl59
                refine LW.pick_t wn rfl hl49 rfl ?_
                refine LW.nil ?_; intro a_ ha_
                exact ⟨rfl, _, _, ha_, ⟨rfl, trivial⟩, Ke.refl, cx, s6, b39, s28, s31, s3, trivial⟩
            · intro F_ lab_ w_ hb_ hr_ hq_; obtain ⟨cx, s6, b39, s28, s31, s3, _⟩ := hq_
              obtain ⟨q91, hl60, rfl, _⟩ := hr_ 41 (by decide)
              refine LW.sub (G := [(1, .slice oa4 a1.length c5), (5, .int .i64 ((k19 : Nat) : Int)), (6, .pointer (some ⟨g32, 0, none⟩)), (12, .slice oa1 a0.length c2), (13, .int .i64 (a0.length : Int)), (14, .int .i64 ((k19 : Nat) : Int)), (60, .bool true)]) ⟨hb_ 1 _ rfl, hb_ 5 _ rfl, hb_ 6 _ rfl, hb_ 12 _ rfl, hb_ 13 _ rfl, hb_ 14 _ rfl, hl60, trivial⟩ ?_
              simp only [List.drop_succ_cons, List.drop_nil, List.drop_zero]
              refine LW.nil ?_
              obtain rfl := Option.some.inj hm
              refine EW.sub (G := [(1, .slice oa4 a1.length c5), (12, .slice oa1 a0.length c2), (13, .int .i64 (a0.length : Int)), (14, .int .i64 ((k19 : Nat) : Int)), (60, .bool true)]) ⟨rfl, rfl, rfl, rfl, rfl, trivial⟩ ?_
              exact EW.join_n ⟨_, rfl, cx, s6, s3, trivial⟩
          · replace hm := cond_f hm hb80
            obtain ⟨x104, hx_x104, hm_⟩ := bnd_some hm; clear hm; have hm := hm_; clear hm_
            obtain ⟨x134, hx_x134, hm_⟩ := letm_some hm; clear hm; have hm := hm_; clear hm_
            rcases Bool.eq_false_or_eq_true x134 with hb138 | hb138
            · replace hm := cond_t hm hb138
              refine CW.sub (G := [(1, .slice oa4 a1.length c5), (5, .int .i64 ((k19 : Nat) : Int)), (6, .pointer (some ⟨g32, 0, none⟩)), (12, .slice oa1 a0.length c2), (13, .int .i64 (a0.length : Int)), (14, .int .i64 ((k19 : Nat) : Int))]) ⟨rfl, rfl, rfl, rfl, rfl, rfl, trivial⟩ ?_
              refine CW.drawL (fun i_ => []) (fun i_ => by (try dsimp only); (repeat' split) <;> rfl) kMix_ 42 (by kernel_rfl) cx.top ?_
              intro w144 e145
              replace cx := cx.step e145 rfl
              replace s6 := s6.step e145
              replace b39 := b39.step e145 rfl
              replace s28 := s28.step e145
              replace s31 := s31.step e145
              replace s3 := s3.step e145
              clear e145
              refine ⟨[(fun L_ lab_ w_ v_ => v_ = .pointer (some ⟨g32, 0, none⟩) ∧ True),
    (fun L_ lab_ w_ v_ => v_ = .int .i64 x21.Peer ∧ True),
    (fun L_ lab_ w_ v_ => v_ = .slice oa4 a1.length c5 ∧ True),
    (fun L_ lab_ w_ v_ => v_ = .int .i64 ((k19 : Nat) : Int) ∧ True),
    (fun L_ lab_ w_ v_ => ∃ (p47 : Addr) (oa52 : Option Addr) (c53 : Nat) (oa55 : Option Addr) (c56 : Nat), v_ = .pointer (some p47) ∧ At lab_ w_ p47 [.int .i64 x51.Peer, .slice oa52 x51.Key.length c53, .slice oa55 x51.Data.length c56, .int .i64 x51.Until] ∧ SL Rep.u8 lab_ w_ oa52 c53 x51.Key ∧ SL Rep.u8 lab_ w_ oa55 c56 x51.Data ∧ True),
    (fun L_ lab_ w_ v_ => ∃ (p58 : Addr) (oa60 : Option Addr) (c61 : Nat) (oa63 : Option Addr) (c64 : Nat), v_ = .pointer (some p58) ∧ At lab_ w_ p58 [.int .i64 x51.Peer, .slice oa60 x51.Key.length c61, .slice oa63 x51.Data.length c64, .int .i64 x51.Until] ∧ SL Rep.u8 lab_ w_ oa60 c61 x51.Key ∧ SL Rep.u8 lab_ w_ oa63 c64 x51.Data ∧ True),
    (fun L_ lab_ w_ v_ => v_ = .int .i64 x51.Peer ∧ True),
    (fun L_ lab_ w_ v_ => v_ = .bool x78 ∧ True),
    (fun L_ lab_ w_ v_ => v_ = .bool x78 ∧ True),
    (fun L_ lab_ w_ v_ => v_ = .pointer (some ⟨g32, 3, none⟩) ∧ True),
    (fun L_ lab_ w_ v_ => v_ = .int .i64 x21.Until ∧ True),
    (fun L_ lab_ w_ v_ => v_ = .slice oa4 a1.length c5 ∧ True),
    (fun L_ lab_ w_ v_ => v_ = .int .i64 ((k19 : Nat) : Int) ∧ True),
    (fun L_ lab_ w_ v_ => ∃ (p100 : Addr) (oa105 : Option Addr) (c106 : Nat) (oa108 : Option Addr) (c109 : Nat), v_ = .pointer (some p100) ∧ At lab_ w_ p100 [.int .i64 x104.Peer, .slice oa105 x104.Key.length c106, .slice oa108 x104.Data.length c109, .int .i64 x104.Until] ∧ SL Rep.u8 lab_ w_ oa105 c106 x104.Key ∧ SL Rep.u8 lab_ w_ oa108 c109 x104.Data ∧ True),
    (fun L_ lab_ w_ v_ => ∃ (p111 : Addr) (oa113 : Option Addr) (c114 : Nat) (oa116 : Option Addr) (c117 : Nat), v_ = .pointer (some (p111.add 3)) ∧ At lab_ w_ p111 [.int .i64 x104.Peer, .slice oa113 x104.Key.length c114, .slice oa116 x104.Data.length c117, .int .i64 x104.Until] ∧ SL Rep.u8 lab_ w_ oa113 c114 x104.Key ∧ SL Rep.u8 lab_ w_ oa116 c117 x104.Data ∧ True),
    (fun L_ lab_ w_ v_ => v_ = .int .i64 x104.Until ∧ True),
    (fun L_ lab_ w_ v_ => v_ = .bool x134 ∧ True),
    (fun L_ lab_ w_ v_ => v_ = .bool x134 ∧ True),
    (fun L_ lab_ w_ v_ => v_ = .bool x134 ∧ True),
    (fun L_ lab_ w_ v_ => v_ = undef ∧ True),
    (fun L_ lab_ w_ v_ => v_ = undef ∧ True),
    (fun L_ lab_ w_ v_ => v_ = undef ∧ True),
    (fun L_ lab_ w_ v_ => v_ = undef ∧ True),
    (fun L_ lab_ w_ v_ => v_ = undef ∧ True),
    (fun L_ lab_ w_ v_ => v_ = undef ∧ True),
    (fun L_ lab_ w_ v_ => v_ = undef ∧ True),
    (fun L_ lab_ w_ v_ => v_ = undef ∧ True),
    (fun L_ lab_ w_ v_ => v_ = undef ∧ True),
    (fun L_ lab_ w_ v_ => v_ = undef ∧ True),
    (fun L_ lab_ w_ v_ => v_ = .bool true ∧ True),
    (fun L_ lab_ w_ v_ => v_ = .bool true ∧ True),
    (fun L_ lab_ w_ v_ => v_ = undef ∧ True),
    (fun L_ lab_ w_ v_ => v_ = undef ∧ True),
    (fun L_ lab_ w_ v_ => v_ = undef ∧ True),
    (fun L_ lab_ w_ v_ => v_ = undef ∧ True),
    (fun L_ lab_ w_ v_ => v_ = undef ∧ True),
    (fun L_ lab_ w_ v_ => v_ = undef ∧ True),
    (fun L_ lab_ w_ v_ => v_ = undef ∧ True),
    (fun L_ lab_ w_ v_ => v_ = undef ∧ True),
    (fun L_ lab_ w_ v_ => v_ = undef ∧ True),
    (fun L_ lab_ w_ v_ => v_ = undef ∧ True),
    (fun L_ lab_ w_ v_ => v_ = .bool true ∧ True)], (fun L_ lab_ w_ => Cx [] w lab w_ lab_ ∧ SL R_api_Partial lab_ w_ oa4 c5 a1 ∧ Box lab_ w_ 16 g32 63 [.int .i64 x21.Peer, .slice oa26 x21.Key.length c27, .slice oa29 x21.Data.length c30, .int .i64 x21.Until] ∧ SL Rep.u8 lab_ w_ oa26 c27 x21.Key ∧ SL Rep.u8 lab_ w_ oa29 c30 x21.Data ∧ SL R_api_Partial lab_ w_ oa1 c2 a0 ∧ True), ?_, ⟨cx, s6, b39, s28, s31, s3, trivial⟩, ?_, ?_⟩
              · exact ⟨by rintro i_ L_ lab_ w_ lab2_ w2_ v_ hne_ hd_ hk_ hp_ ⟨hv_, _⟩; exact ⟨hv_, trivial⟩, by rintro i_ L_ lab_ w_ lab2_ w2_ v_ hne_ hd_ hk_ hp_ ⟨hv_, _⟩; exact ⟨hv_, trivial⟩, by rintro i_ L_ lab_ w_ lab2_ w2_ v_ hne_ hd_ hk_ hp_ ⟨hv_, _⟩; exact ⟨hv_, trivial⟩, by rintro i_ L_ lab_ w_ lab2_ w2_ v_ hne_ hd_ hk_ hp_ ⟨hv_, _⟩; exact ⟨hv_, trivial⟩, by rintro i_ L_ lab_ w_ lab2_ w2_ v_ hne_ hd_ hk_ hp_ ⟨p47, oa52, c53, oa55, c56, hv_, ha50, s54, s57, _⟩; exact ⟨p47, oa52, c53, oa55, c56, hv_, (ha50.keep hp_), (s54.keep hp_), (s57.keep hp_), trivial⟩, by rintro i_ L_ lab_ w_ lab2_ w2_ v_ hne_ hd_ hk_ hp_ ⟨p58, oa60, c61, oa63, c64, hv_, ha59, s62, s65, _⟩; exact ⟨p58, oa60, c61, oa63, c64, hv_, (ha59.keep hp_), (s62.keep hp_), (s65.keep hp_), trivial⟩, by rintro i_ L_ lab_ w_ lab2_ w2_ v_ hne_ hd_ hk_ hp_ ⟨hv_, _⟩; exact ⟨hv_, trivial⟩, by rintro i_ L_ lab_ w_ lab2_ w2_ v_ hne_ hd_ hk_ hp_ ⟨hv_, _⟩; exact ⟨hv_, trivial⟩, by rintro i_ L_ lab_ w_ lab2_ w2_ v_ hne_ hd_ hk_ hp_ ⟨hv_, _⟩; exact ⟨hv_, trivial⟩, by rintro i_ L_ lab_ w_ lab2_ w2_ v_ hne_ hd_ hk_ hp_ ⟨hv_, _⟩; exact ⟨hv_, trivial⟩, by rintro i_ L_ lab_ w_ lab2_ w2_ v_ hne_ hd_ hk_ hp_ ⟨hv_, _⟩; exact ⟨hv_, trivial⟩, by rintro i_ L_ lab_ w_ lab2_ w2_ v_ hne_ hd_ hk_ hp_ ⟨hv_, _⟩; exact ⟨hv_, trivial⟩, by rintro i_ L_ lab_ w_ lab2_ w2_ v_ hne_ hd_ hk_ hp_ ⟨hv_, _⟩; exact ⟨hv_, trivial⟩, by rintro i_ L_ lab_ w_ lab2_ w2_ v_ hne_ hd_ hk_ hp_ ⟨p100, oa105, c106, oa108, c109, hv_, ha103, s107, s110, _⟩; exact ⟨p100, oa105, c106, oa108, c109, hv_, (ha103.keep hp_), (s107.keep hp_), (s110.keep hp_), trivial⟩, by rintro i_ L_ lab_ w_ lab2_ w2_ v_ hne_ hd_ hk_ hp_ ⟨p111, oa113, c114, oa116, c117, hv_, ha112, s115, s118, _⟩; exact ⟨p111, oa113, c114, oa116, c117, hv_, (ha112.keep hp_), (s115.keep hp_), (s118.keep hp_), trivial⟩, by rintro i_ L_ lab_ w_ lab2_ w2_ v_ hne_ hd_ hk_ hp_ ⟨hv_, _⟩; exact ⟨hv_, trivial⟩, by rintro i_ L_ lab_ w_ lab2_ w2_ v_ hne_ hd_ hk_ hp_ ⟨hv_, _⟩; exact ⟨hv_, trivial⟩, by rintro i_ L_ lab_ w_ lab2_ w2_ v_ hne_ hd_ hk_ hp_ ⟨hv_, _⟩; exact ⟨hv_, trivial⟩, by rintro i_ L_ lab_ w_ lab2_ w2_ v_ hne_ hd_ hk_ hp_ ⟨hv_, _⟩; exact ⟨hv_, trivial⟩, by rintro i_ L_ lab_ w_ lab2_ w2_ v_ hne_ hd_ hk_ hp_ ⟨hv_, _⟩; exact ⟨hv_, trivial⟩, by rintro i_ L_ lab_ w_ lab2_ w2_ v_ hne_ hd_ hk_ hp_ ⟨hv_, _⟩; exact ⟨hv_, trivial⟩, by rintro i_ L_ lab_ w_ lab2_ w2_ v_ hne_ hd_ hk_ hp_ ⟨hv_, _⟩; exact ⟨hv_, trivial⟩, by rintro i_ L_ lab_ w_ lab2_ w2_ v_ hne_ hd_ hk_ hp_ ⟨hv_, _⟩; exact ⟨hv_, trivial⟩, by rintro i_ L_ lab_ w_ lab2_ w2_ v_ hne_ hd_ hk_ hp_ ⟨hv_, _⟩; exact ⟨hv_, trivial⟩, by rintro i_ L_ lab_ w_ lab2_ w2_ v_ hne_ hd_ hk_ hp_ ⟨hv_, _⟩; exact ⟨hv_, trivial⟩, by rintro i_ L_ lab_ w_ lab2_ w2_ v_ hne_ hd_ hk_ hp_ ⟨hv_, _⟩; exact ⟨hv_, trivial⟩, by rintro i_ L_ lab_ w_ lab2_ w2_ v_ hne_ hd_ hk_ hp_ ⟨hv_, _⟩; exact ⟨hv_, trivial⟩, by rintro i_ L_ lab_ w_ lab2_ w2_ v_ hne_ hd_ hk_ hp_ ⟨hv_, _⟩; exact ⟨hv_, trivial⟩, by rintro i_ L_ lab_ w_ lab2_ w2_ v_ hne_ hd_ hk_ hp_ ⟨hv_, _⟩; exact ⟨hv_, trivial⟩, by rintro i_ L_ lab_ w_ lab2_ w2_ v_ hne_ hd_ hk_ hp_ ⟨hv_, _⟩; exact ⟨hv_, trivial⟩, by rintro i_ L_ lab_ w_ lab2_ w2_ v_ hne_ hd_ hk_ hp_ ⟨hv_, _⟩; exact ⟨hv_, trivial⟩, by rintro i_ L_ lab_ w_ lab2_ w2_ v_ hne_ hd_ hk_ hp_ ⟨hv_, _⟩; exact ⟨hv_, trivial⟩, by rintro i_ L_ lab_ w_ lab2_ w2_ v_ hne_ hd_ hk_ hp_ ⟨hv_, _⟩; exact ⟨hv_, trivial⟩, by rintro i_ L_ lab_ w_ lab2_ w2_ v_ hne_ hd_ hk_ hp_ ⟨hv_, _⟩; exact ⟨hv_, trivial⟩, by rintro i_ L_ lab_ w_ lab2_ w2_ v_ hne_ hd_ hk_ hp_ ⟨hv_, _⟩; exact ⟨hv_, trivial⟩, by rintro i_ L_ lab_ w_ lab2_ w2_ v_ hne_ hd_ hk_ hp_ ⟨hv_, _⟩; exact ⟨hv_, trivial⟩, by rintro i_ L_ lab_ w_ lab2_ w2_ v_ hne_ hd_ hk_ hp_ ⟨hv_, _⟩; exact ⟨hv_, trivial⟩, by rintro i_ L_ lab_ w_ lab2_ w2_ v_ hne_ hd_ hk_ hp_ ⟨hv_, _⟩; exact ⟨hv_, trivial⟩, by rintro i_ L_ lab_ w_ lab2_ w2_ v_ hne_ hd_ hk_ hp_ ⟨hv_, _⟩; exact ⟨hv_, trivial⟩, by rintro i_ L_ lab_ w_ lab2_ w2_ v_ hne_ hd_ hk_ hp_ ⟨hv_, _⟩; exact ⟨hv_, trivial⟩, by rintro i_ L_ lab_ w_ lab2_ w2_ v_ hne_ hd_ hk_ hp_ ⟨hv_, _⟩; exact ⟨hv_, trivial⟩, by rintro i_ L_ lab_ w_ lab2_ w2_ v_ hne_ hd_ hk_ hp_ ⟨hv_, _⟩; exact ⟨hv_, trivial⟩, trivial⟩
              · refine (ob_succ (ob_succ (ob_succ (ob_succ (ob_succ (ob_succ (ob_succ (ob_succ (ob_succ (ob_succ (ob_succ (ob_succ (ob_succ (ob_succ (ob_succ (ob_succ (ob_succ (ob_succ (ob_succ (ob_succ (ob_succ (ob_succ (ob_succ (ob_succ (ob_succ (ob_succ (ob_succ (ob_succ (ob_succ (ob_succ (ob_succ (ob_succ (ob_succ (ob_succ (ob_succ (ob_succ (ob_succ (ob_succ (ob_succ (ob_succ (ob_succ (ob_succ ob_nil ?_) ?_) ?_) ?_) ?_) ?_) ?_) ?_) ?_) ?_) ?_) ?_) ?_) ?_) ?_) ?_) ?_) ?_) ?_) ?_) ?_) ?_) ?_) ?_) ?_) ?_) ?_) ?_) ?_) ?_) ?_) ?_) ?_) ?_) ?_) ?_) ?_) ?_) ?_) ?_) ?_) ?_)
                · intro o_ L_ F_ lab_ w_ ho_ hL_ hw_ hcl_ hb_ hr_ hq_; obtain rfl := Option.some.inj (ho_ : some _ = some o_); obtain ⟨cx, s6, b39, s28, s31, s3, _⟩ := hq_
                  have hl6 := hb_ 6 _ rfl
                  refine LW.fldB 0 kFld_63_0 rfl wn rfl hl6 ?_
                  refine LW.nil ?_; intro a_ ha_
                  exact ⟨rfl, _, _, ha_, ⟨rfl, trivial⟩, Ke.refl, cx, s6, b39, s28, s31, s3, trivial⟩
                · intro o_ L_ F_ lab_ w_ ho_ hL_ hw_ hcl_ hb_ hr_ hq_; obtain rfl := Option.some.inj (ho_ : some _ = some o_); obtain ⟨cx, s6, b39, s28, s31, s3, _⟩ := hq_
                  obtain ⟨q44, hl19, rfl, _⟩ := hr_ 0 (by decide) (hw_ 0 (by kernel_rfl))
                  replace hl19 : Gk.look F_ 19 = some (.pointer (some ⟨g32, 0, none⟩)) := hl19
                  refine LW.loadB1 b39 kOne_3 rfl wn rfl hl19 ?_
                  refine LW.nil ?_; intro a_ ha_
                  exact ⟨rfl, _, _, ha_, ⟨rfl, trivial⟩, Ke.refl, cx, s6, b39, s28, s31, s3, trivial⟩
                · exact ob_moveb (v := .slice oa4 a1.length c5) rfl (fun _ h_ => h_ _ _ rfl) rfl (fun _ _ _ => ⟨rfl, trivial⟩) (fun _ _ _ h_ => h_)
                · exact ob_moveb (v := .int .i64 ((k19 : Nat) : Int)) rfl (fun _ h_ => h_ _ _ rfl) rfl (fun _ _ _ => ⟨rfl, trivial⟩) (fun _ _ _ h_ => h_)
                · intro o_ L_ F_ lab_ w_ ho_ hL_ hw_ hcl_ hb_ hr_ hq_; obtain rfl := Option.some.inj (ho_ : some _ = some o_); obtain ⟨cx, s6, b39, s28, s31, s3, _⟩ := hq_
                  obtain ⟨q45, hl21, rfl, _⟩ := hr_ 2 (by decide) (hw_ 2 (by kernel_rfl))
                  replace hl21 : Gk.look F_ 21 = some (.slice oa4 a1.length c5) := hl21
                  obtain ⟨q46, hl22, rfl, _⟩ := hr_ 3 (by decide) (hw_ 3 (by kernel_rfl))
                  replace hl22 : Gk.look F_ 22 = some (.int .i64 ((k19 : Nat) : Int)) := hl22
                  refine LW.index (bnd_ret hx_x51) s6 kSl_22 wn rfl hl21 hl22 ?_; intro x_ p47 cs48 hx_ hr49 ha50; cases hx_
                  obtain ⟨oa52, c53, oa55, c56, rfl, s54, s57, _⟩ := hr49
                  refine LW.nil ?_; intro a_ ha_
                  exact ⟨rfl, _, _, ha_, ⟨p47, oa52, c53, oa55, c56, rfl, ha50, s54, s57, trivial⟩, Ke.refl, cx, s6, b39, s28, s31, s3, trivial⟩
                · intro o_ L_ F_ lab_ w_ ho_ hL_ hw_ hcl_ hb_ hr_ hq_; obtain rfl := Option.some.inj (ho_ : some _ = some o_); obtain ⟨cx, s6, b39, s28, s31, s3, _⟩ := hq_
                  obtain ⟨q66, hl23, p58, oa60, c61, oa63, c64, rfl, ha59, s62, s65, _⟩ := hr_ 4 (by decide) (hw_ 4 (by kernel_rfl))
                  replace hl23 : Gk.look F_ 23 = some (.pointer (some p58)) := hl23
                  refine LW.fldA kFld_63_0 wn rfl hl23 ?_
                  refine LW.nil ?_; intro a_ ha_
                  exact ⟨rfl, _, _, ha_, ⟨p58, oa60, c61, oa63, c64, rfl, ha59, s62, s65, trivial⟩, Ke.refl, cx, s6, b39, s28, s31, s3, trivial⟩
                · intro o_ L_ F_ lab_ w_ ho_ hL_ hw_ hcl_ hb_ hr_ hq_; obtain rfl := Option.some.inj (ho_ : some _ = some o_); obtain ⟨cx, s6, b39, s28, s31, s3, _⟩ := hq_
                  obtain ⟨q75, hl24, p67, oa69, c70, oa72, c73, rfl, ha68, s71, s74, _⟩ := hr_ 5 (by decide) (hw_ 5 (by kernel_rfl))
                  replace hl24 : Gk.look F_ 24 = some (.pointer (some p67)) := hl24
                  refine LW.loadA1 (ha68.cell 0 rfl) kOne_3 wn rfl hl24 ?_
                  refine LW.nil ?_; intro a_ ha_
                  exact ⟨rfl, _, _, ha_, ⟨rfl, trivial⟩, Ke.refl, cx, s6, b39, s28, s31, s3, trivial⟩
                · intro o_ L_ F_ lab_ w_ ho_ hL_ hw_ hcl_ hb_ hr_ hq_; obtain rfl := Option.some.inj (ho_ : some _ = some o_); obtain ⟨cx, s6, b39, s28, s31, s3, _⟩ := hq_
                  obtain ⟨q76, hl20, rfl, _⟩ := hr_ 1 (by decide) (hw_ 1 (by kernel_rfl))
                  replace hl20 : Gk.look F_ 20 = some (.int .i64 x21.Peer) := hl20
                  obtain ⟨q77, hl25, rfl, _⟩ := hr_ 6 (by decide) (hw_ 6 (by kernel_rfl))
                  replace hl25 : Gk.look F_ 25 = some (.int .i64 x51.Peer) := hl25
                  refine LW.neq (letm_eq hx_x78) wn rfl hl20 hl25 ?_; intro x_ hx_; cases hx_
                  refine LW.nil ?_; intro a_ ha_
                  exact ⟨rfl, _, _, ha_, ⟨rfl, trivial⟩, Ke.refl, cx, s6, b39, s28, s31, s3, trivial⟩
                · intro o_ L_ F_ lab_ w_ ho_ hL_ hw_ hcl_ hb_ hr_ hq_; obtain rfl := Option.some.inj (ho_ : some _ = some o_); obtain ⟨cx, s6, b39, s28, s31, s3, _⟩ := hq_
                  obtain ⟨q79, hl26, rfl, _⟩ := hr_ 7 (by decide) (hw_ 7 (by kernel_rfl))
                  replace hl26 : Gk.look F_ 26 = some (.bool x78) := hl26
                  refine LW.move wn rfl hl26 ?_
                  refine LW.nil ?_; intro a_ ha_
                  exact ⟨rfl, _, _, ha_, ⟨rfl, trivial⟩, Ke.refl, cx, s6, b39, s28, s31, s3, trivial⟩
                · intro o_ L_ F_ lab_ w_ ho_ hL_ hw_ hcl_ hb_ hr_ hq_; obtain rfl := Option.some.inj (ho_ : some _ = some o_); obtain ⟨cx, s6, b39, s28, s31, s3, _⟩ := hq_
                  have hl6 := hb_ 6 _ rfl
                  obtain ⟨q92, hl27, rfl, _⟩ := hr_ 8 (by decide) (hw_ 8 (by kernel_rfl))
                  replace hl27 : Gk.look F_ 27 = some (.bool x78) := hl27
                  refine LW.fldB 3 kFld_63_3 rfl (ws 27 rfl (bk hl27 hb80)) rfl hl6 ?_
                  refine LW.nil ?_; intro a_ ha_
                  exact ⟨rfl, _, _, ha_, ⟨rfl, trivial⟩, Ke.refl, cx, s6, b39, s28, s31, s3, trivial⟩
                · intro o_ L_ F_ lab_ w_ ho_ hL_ hw_ hcl_ hb_ hr_ hq_; obtain rfl := Option.some.inj (ho_ : some _ = some o_); obtain ⟨cx, s6, b39, s28, s31, s3, _⟩ := hq_
                  obtain ⟨q93, hl28, rfl, _⟩ := hr_ 9 (by decide) (hw_ 9 (by kernel_rfl))
                  replace hl28 : Gk.look F_ 28 = some (.pointer (some ⟨g32, 3, none⟩)) := hl28
                  obtain ⟨q94, hl27, rfl, _⟩ := hr_ 8 (by decide) (hw_ 8 (by kernel_rfl))
                  replace hl27 : Gk.look F_ 27 = some (.bool x78) := hl27
                  refine LW.loadB1 b39 kOne_3 rfl (ws 27 rfl (bk hl27 hb80)) rfl hl28 ?_
                  refine LW.nil ?_; intro a_ ha_
                  exact ⟨rfl, _, _, ha_, ⟨rfl, trivial⟩, Ke.refl, cx, s6, b39, s28, s31, s3, trivial⟩
                · intro o_ L_ F_ lab_ w_ ho_ hL_ hw_ hcl_ hb_ hr_ hq_; obtain rfl := Option.some.inj (ho_ : some _ = some o_); obtain ⟨cx, s6, b39, s28, s31, s3, _⟩ := hq_
                  have hl1 := hb_ 1 _ rfl
                  obtain ⟨q95, hl27, rfl, _⟩ := hr_ 8 (by decide) (hw_ 8 (by kernel_rfl))
                  replace hl27 : Gk.look F_ 27 = some (.bool x78) := hl27
                  refine LW.move (ws 27 rfl (bk hl27 hb80)) rfl hl1 ?_
                  refine LW.nil ?_; intro a_ ha_
                  exact ⟨rfl, _, _, ha_, ⟨rfl, trivial⟩, Ke.refl, cx, s6, b39, s28, s31, s3, trivial⟩
                · intro o_ L_ F_ lab_ w_ ho_ hL_ hw_ hcl_ hb_ hr_ hq_; obtain rfl := Option.some.inj (ho_ : some _ = some o_); obtain ⟨cx, s6, b39, s28, s31, s3, _⟩ := hq_
                  have hl5 := hb_ 5 _ rfl
                  obtain ⟨q96, hl27, rfl, _⟩ := hr_ 8 (by decide) (hw_ 8 (by kernel_rfl))
                  replace hl27 : Gk.look F_ 27 = some (.bool x78) := hl27
                  refine LW.move (ws 27 rfl (bk hl27 hb80)) rfl hl5 ?_
                  refine LW.nil ?_; intro a_ ha_
                  exact ⟨rfl, _, _, ha_, ⟨rfl, trivial⟩, Ke.refl, cx, s6, b39, s28, s31, s3, trivial⟩
                · intro o_ L_ F_ lab_ w_ ho_ hL_ hw_ hcl_ hb_ hr_ hq_; obtain rfl := Option.some.inj (ho_ : some _ = some o_); obtain ⟨cx, s6, b39, s28, s31, s3, _⟩ := hq_
                  obtain ⟨q97, hl30, rfl, _⟩ := hr_ 11 (by decide) (hw_ 11 (by kernel_rfl))
                  replace hl30 : Gk.look F_ 30 = some (.slice oa4 a1.length c5) := hl30
                  obtain ⟨q98, hl31, rfl, _⟩ := hr_ 12 (by decide) (hw_ 12 (by kernel_rfl))
                  replace hl31 : Gk.look F_ 31 = some (.int .i64 ((k19 : Nat) : Int)) := hl31
                  obtain ⟨q99, hl27, rfl, _⟩ := hr_ 8 (by decide) (hw_ 8 (by kernel_rfl))
                  replace hl27 : Gk.look F_ 27 = some (.bool x78) := hl27
                  refine LW.index (bnd_ret hx_x104) s6 kSl_22 (ws 27 rfl (bk hl27 hb80)) rfl hl30 hl31 ?_; intro x_ p100 cs101 hx_ hr102 ha103; cases hx_
                  obtain ⟨oa105, c106, oa108, c109, rfl, s107, s110, _⟩ := hr102
                  refine LW.nil ?_; intro a_ ha_
                  exact ⟨rfl, _, _, ha_, ⟨p100, oa105, c106, oa108, c109, rfl, ha103, s107, s110, trivial⟩, Ke.refl, cx, s6, b39, s28, s31, s3, trivial⟩
                · intro o_ L_ F_ lab_ w_ ho_ hL_ hw_ hcl_ hb_ hr_ hq_; obtain rfl := Option.some.inj (ho_ : some _ = some o_); obtain ⟨cx, s6, b39, s28, s31, s3, _⟩ := hq_
                  obtain ⟨q119, hl32, p111, oa113, c114, oa116, c117, rfl, ha112, s115, s118, _⟩ := hr_ 13 (by decide) (hw_ 13 (by kernel_rfl))
                  replace hl32 : Gk.look F_ 32 = some (.pointer (some p111)) := hl32
                  obtain ⟨q120, hl27, rfl, _⟩ := hr_ 8 (by decide) (hw_ 8 (by kernel_rfl))
                  replace hl27 : Gk.look F_ 27 = some (.bool x78) := hl27
                  refine LW.fldA kFld_63_3 (ws 27 rfl (bk hl27 hb80)) rfl hl32 ?_
                  refine LW.nil ?_; intro a_ ha_
                  exact ⟨rfl, _, _, ha_, ⟨p111, oa113, c114, oa116, c117, rfl, ha112, s115, s118, trivial⟩, Ke.refl, cx, s6, b39, s28, s31, s3, trivial⟩
                · intro o_ L_ F_ lab_ w_ ho_ hL_ hw_ hcl_ hb_ hr_ hq_; obtain rfl := Option.some.inj (ho_ : some _ = some o_); obtain ⟨cx, s6, b39, s28, s31, s3, _⟩ := hq_
                  obtain ⟨q129, hl33, p121, oa123, c124, oa126, c127, rfl, ha122, s125, s128, _⟩ := hr_ 14 (by decide) (hw_ 14 (by kernel_rfl))
                  replace hl33 : Gk.look F_ 33 = some (.pointer (some (p121.add 3))) := hl33
                  obtain ⟨q130, hl27, rfl, _⟩ := hr_ 8 (by decide) (hw_ 8 (by kernel_rfl))
                  replace hl27 : Gk.look F_ 27 = some (.bool x78) := hl27
                  refine LW.loadA1 (ha122.cell 3 rfl) kOne_3 (ws 27 rfl (bk hl27 hb80)) rfl hl33 ?_
                  refine LW.nil ?_; intro a_ ha_
                  exact ⟨rfl, _, _, ha_, ⟨rfl, trivial⟩, Ke.refl, cx, s6, b39, s28, s31, s3, trivial⟩
                · intro o_ L_ F_ lab_ w_ ho_ hL_ hw_ hcl_ hb_ hr_ hq_; obtain rfl := Option.some.inj (ho_ : some _ = some o_); obtain ⟨cx, s6, b39, s28, s31, s3, _⟩ := hq_
                  obtain ⟨q131, hl29, rfl, _⟩ := hr_ 10 (by decide) (hw_ 10 (by kernel_rfl))
                  replace hl29 : Gk.look F_ 29 = some (.int .i64 x21.Until) := hl29
                  obtain ⟨q132, hl34, rfl, _⟩ := hr_ 15 (by decide) (hw_ 15 (by kernel_rfl))
                  replace hl34 : Gk.look F_ 34 = some (.int .i64 x104.Until) := hl34
                  obtain ⟨q133, hl27, rfl, _⟩ := hr_ 8 (by decide) (hw_ 8 (by kernel_rfl))
                  replace hl27 : Gk.look F_ 27 = some (.bool x78) := hl27
                  refine LW.neq (letm_eq hx_x134) (ws 27 rfl (bk hl27 hb80)) rfl hl29 hl34 ?_; intro x_ hx_; cases hx_
                  refine LW.nil ?_; intro a_ ha_
                  exact ⟨rfl, _, _, ha_, ⟨rfl, trivial⟩, Ke.refl, cx, s6, b39, s28, s31, s3, trivial⟩
                · intro o_ L_ F_ lab_ w_ ho_ hL_ hw_ hcl_ hb_ hr_ hq_; obtain rfl := Option.some.inj (ho_ : some _ = some o_); obtain ⟨cx, s6, b39, s28, s31, s3, _⟩ := hq_
                  obtain ⟨q135, hl27, rfl, _⟩ := hr_ 8 (by decide) (hw_ 8 (by kernel_rfl))
                  replace hl27 : Gk.look F_ 27 = some (.bool x78) := hl27
                  obtain ⟨q136, hl35, rfl, _⟩ := hr_ 16 (by decide) (hw_ 16 (by kernel_rfl))
                  replace hl35 : Gk.look F_ 35 = some (.bool x134) := hl35
                  refine LW.pick_f wn rfl (bk hl27 hb80) hl35 ?_
                  refine LW.nil ?_; intro a_ ha_
                  exact ⟨rfl, _, _, ha_, ⟨rfl, trivial⟩, Ke.refl, cx, s6, b39, s28, s31, s3, trivial⟩
                · intro o_ L_ F_ lab_ w_ ho_ hL_ hw_ hcl_ hb_ hr_ hq_; obtain rfl := Option.some.inj (ho_ : some _ = some o_); obtain ⟨cx, s6, b39, s28, s31, s3, _⟩ := hq_
                  obtain ⟨q137, hl36, rfl, _⟩ := hr_ 17 (by decide) (hw_ 17 (by kernel_rfl))
                  replace hl36 : Gk.look F_ 36 = some (.bool x134) := hl36
                  refine LW.move wn rfl hl36 ?_
                  refine LW.nil ?_; intro a_ ha_
                  exact ⟨rfl, _, _, ha_, ⟨rfl, trivial⟩, Ke.refl, cx, s6, b39, s28, s31, s3, trivial⟩
                · exact ob_skip (b' := true) 18 rfl (by kernel_rfl) (by decide) ⟨_, rfl⟩ (fun _ _ _ _ h_ => .inl (h_.1.trans (congrArg Value.bool hb138))) rfl rfl (fun _ _ _ => ⟨rfl, trivial⟩) (fun _ _ _ h_ => h_)
                · exact ob_skip (b' := true) 18 rfl (by kernel_rfl) (by decide) ⟨_, rfl⟩ (fun _ _ _ _ h_ => .inl (h_.1.trans (congrArg Value.bool hb138))) rfl rfl (fun _ _ _ => ⟨rfl, trivial⟩) (fun _ _ _ h_ => h_)
                · exact ob_skip (b' := true) 18 rfl (by kernel_rfl) (by decide) ⟨_, rfl⟩ (fun _ _ _ _ h_ => .inl (h_.1.trans (congrArg Value.bool hb138))) rfl rfl (fun _ _ _ => ⟨rfl, trivial⟩) (fun _ _ _ h_ => h_)
                · exact ob_skip (b' := true) 18 rfl (by kernel_rfl) (by decide) ⟨_, rfl⟩ (fun _ _ _ _ h_ => .inl (h_.1.trans (congrArg Value.bool hb138))) rfl rfl (fun _ _ _ => ⟨rfl, trivial⟩) (fun _ _ _ h_ => h_)
                · exact ob_skip (b' := true) 18 rfl (by kernel_rfl) (by decide) ⟨_, rfl⟩ (fun _ _ _ _ h_ => .inl (h_.1.trans (congrArg Value.bool hb138))) rfl rfl (fun _ _ _ => ⟨rfl, trivial⟩) (fun _ _ _ h_ => h_)
                · exact ob_skip (b' := true) 18 rfl (by kernel_rfl) (by decide) ⟨_, rfl⟩ (fun _ _ _ _ h_ => .inl (h_.1.trans (congrArg Value.bool hb138))) rfl rfl (fun _ _ _ => ⟨rfl, trivial⟩) (fun _ _ _ h_ => h_)
                · exact ob_skip (b' := true) 18 rfl (by kernel_rfl) (by decide) ⟨_, rfl⟩ (fun _ _ _ _ h_ => .inl (h_.1.trans (congrArg Value.bool hb138))) rfl rfl (fun _ _ _ => ⟨rfl, trivial⟩) (fun _ _ _ h_ => h_)
                · exact ob_skip (b' := true) 18 rfl (by kernel_rfl) (by decide) ⟨_, rfl⟩ (fun _ _ _ _ h_ => .inl (h_.1.trans (congrArg Value.bool hb138))) rfl rfl (fun _ _ _ => ⟨rfl, trivial⟩) (fun _ _ _ h_ => h_)
                · exact ob_skip (b' := true) 18 rfl (by kernel_rfl) (by decide) ⟨_, rfl⟩ (fun _ _ _ _ h_ => .inl (h_.1.trans (congrArg Value.bool hb138))) rfl rfl (fun _ _ _ => ⟨rfl, trivial⟩) (fun _ _ _ h_ => h_)
                · exact ob_skip (b' := true) 18 rfl (by kernel_rfl) (by decide) ⟨_, rfl⟩ (fun _ _ _ _ h_ => .inl (h_.1.trans (congrArg Value.bool hb138))) rfl rfl (fun _ _ _ => ⟨rfl, trivial⟩) (fun _ _ _ h_ => h_)
                · intro o_ L_ F_ lab_ w_ ho_ hL_ hw_ hcl_ hb_ hr_ hq_; obtain rfl := Option.some.inj (ho_ : some _ = some o_); obtain ⟨cx, s6, b39, s28, s31, s3, _⟩ := hq_
                  obtain ⟨q139, hl37, rfl, _⟩ := hr_ 18 (by decide) (hw_ 18 (by kernel_rfl))
                  replace hl37 : Gk.look F_ 37 = some (.bool x134) := hl37
                  obtain ⟨q140, hl47, rfl, _⟩ := hr_ 28 (by decide) (hw_ 28 (by kernel_rfl))
                  replace hl47 : Gk.look F_ 47 = some (undef) := hl47
                  refine LW.pick_t wn rfl (bk hl37 hb138) rfl ?_
                  refine LW.nil ?_; intro a_ ha_
                  exact ⟨rfl, _, _, ha_, ⟨rfl, trivial⟩, Ke.refl, cx, s6, b39, s28, s31, s3, trivial⟩
                · intro o_ L_ F_ lab_ w_ ho_ hL_ hw_ hcl_ hb_ hr_ hq_; obtain rfl := Option.some.inj (ho_ : some _ = some o_); obtain ⟨cx, s6, b39, s28, s31, s3, _⟩ := hq_
                  obtain ⟨q141, hl48, rfl, _⟩ := hr_ 29 (by decide) (hw_ 29 (by kernel_rfl))
                  replace hl48 : Gk.look F_ 48 = some (.bool true) := hl48
                  refine LW.move wn rfl hl48 ?_
                  refine LW.nil ?_; intro a_ ha_
                  exact ⟨rfl, _, _, ha_, ⟨rfl, trivial⟩, Ke.refl, cx, s6, b39, s28, s31, s3, trivial⟩
                · exact ob_skip (b' := true) 30 rfl (by kernel_rfl) (by decide) ⟨_, rfl⟩ (fun _ _ _ _ h_ => .inl h_.1) rfl rfl (fun _ _ _ => ⟨rfl, trivial⟩) (fun _ _ _ h_ => h_)
                · exact ob_skip (b' := true) 30 rfl (by kernel_rfl) (by decide) ⟨_, rfl⟩ (fun _ _ _ _ h_ => .inl h_.1) rfl rfl (fun _ _ _ => ⟨rfl, trivial⟩) (fun _ _ _ h_ => h_)
                · exact ob_skip (b' := true) 30 rfl (by kernel_rfl) (by decide) ⟨_, rfl⟩ (fun _ _ _ _ h_ => .inl h_.1) rfl rfl (fun _ _ _ => ⟨rfl, trivial⟩) (fun _ _ _ h_ => h_)
                · exact ob_skip (b' := true) 30 rfl (by kernel_rfl) (by decide) ⟨_, rfl⟩ (fun _ _ _ _ h_ => .inl h_.1) rfl rfl (fun _ _ _ => ⟨rfl, trivial⟩) (fun _ _ _ h_ => h_)
                · exact ob_skip (b' := true) 30 rfl (by kernel_rfl) (by decide) ⟨_, rfl⟩ (fun _ _ _ _ h_ => .inl h_.1) rfl rfl (fun _ _ _ => ⟨rfl, trivial⟩) (fun _ _ _ h_ => h_)
                · exact ob_skip (b' := true) 30 rfl (by kernel_rfl) (by decide) ⟨_, rfl⟩ (fun _ _ _ _ h_ => .inl h_.1) rfl rfl (fun _ _ _ => ⟨rfl, trivial⟩) (fun _ _ _ h_ => h_)
                · exact ob_skip (b' := true) 30 rfl (by kernel_rfl) (by decide) ⟨_, rfl⟩ (fun _ _ _ _ h_ => .inl h_.1) rfl rfl (fun _ _ _ => ⟨rfl, trivial⟩) (fun _ _ _ h_ => h_)
                · exact ob_skip (b' := true) 30 rfl (by kernel_rfl) (by decide) ⟨_, rfl⟩ (fun _ _ _ _ h_ => .inl h_.1) rfl rfl (fun _ _ _ => ⟨rfl, trivial⟩) (fun _ _ _ h_ => h_)
                · exact ob_skip (b' := true) 30 rfl (by kernel_rfl) (by decide) ⟨_, rfl⟩ (fun _ _ _ _ h_ => .inl h_.1) rfl rfl (fun _ _ _ => ⟨rfl, trivial⟩) (fun _ _ _ h_ => h_)
                · exact ob_skip (b' := true) 30 rfl (by kernel_rfl) (by decide) ⟨_, rfl⟩ (fun _ _ _ _ h_ => .inl h_.1) rfl rfl (fun _ _ _ => ⟨rfl, trivial⟩) (fun _ _ _ h_ => h_)
                · intro o_ L_ F_ lab_ w_ ho_ hL_ hw_ hcl_ hb_ hr_ hq_; obtain rfl := Option.some.inj (ho_ : some _ = some o_); obtain ⟨cx, s6, b39, s28, s31, s3, _⟩ := hq_
                  obtain ⟨q142, hl49, rfl, _⟩ := hr_ 30 (by decide) (hw_ 30 (by kernel_rfl))
                  replace hl49 : Gk.look F_ 49 = some (.bool true) := hl49
                  obtain ⟨q143, hl59, rfl, _⟩ := hr_ 40 (by decide) (hw_ 40 (by kernel_rfl))
                  replace hl59 : Gk.look F_ 59 = some (undef) := hl59
                  refine LW.pick_t wn rfl hl49 rfl ?_
                  refine LW.nil ?_; intro a_ ha_
                  exact ⟨rfl, _, _, ha_, ⟨rfl, trivial⟩, Ke.refl, cx, s6, b39, s28, s31, s3, trivial⟩
              · intro F_ lab_ w_ hb_ hr_ hq_; obtain ⟨cx, s6, b39, s28, s31, s3, _⟩ := hq_
                obtain ⟨q146, hl60, rfl, _⟩ := hr_ 41 (by decide)
                refine LW.sub (G := [(1, .slice oa4 a1.length c5), (5, .int .i64 ((k19 : Nat) : Int)), (6, .pointer (some ⟨g32, 0, none⟩)), (12, .slice oa1 a0.length c2), (13, .int .i64 (a0.length : Int)), (14, .int .i64 ((k19 : Nat) : Int)), (60, .bool true)]) ⟨hb_ 1 _ rfl, hb_ 5 _ rfl, hb_ 6 _ rfl, hb_ 12 _ rfl, hb_ 13 _ rfl, hb_ 14 _ rfl, hl60, trivial⟩ ?_
                simp only [List.drop_succ_cons, List.drop_nil, List.drop_zero]
                refine LW.nil ?_
                obtain rfl := Option.some.inj hm
                refine EW.sub (G := [(1, .slice oa4 a1.length c5), (12, .slice oa1 a0.length c2), (13, .int .i64 (a0.length : Int)), (14, .int .i64 ((k19 : Nat) : Int)), (60, .bool true)]) ⟨rfl, rfl, rfl, rfl, rfl, trivial⟩ ?_
                exact EW.join_n ⟨_, rfl, cx, s6, s3, trivial⟩
            · replace hm := cond_f hm hb138
              obtain ⟨x161, hx_x161, hm_⟩ := bnd_some hm; clear hm; have hm := hm_; clear hm_
              obtain ⟨x196, hx_x196, hm_⟩ := letm_some hm; clear hm; have hm := hm_; clear hm_
              rcases Bool.eq_false_or_eq_true x196 with hb200 | hb200
              · replace hm := cond_t hm hb200
                refine CW.sub (G := [(1, .slice oa4 a1.length c5), (5, .int .i64 ((k19 : Nat) : Int)), (6, .pointer (some ⟨g32, 0, none⟩)), (12, .slice oa1 a0.length c2), (13, .int .i64 (a0.length : Int)), (14, .int .i64 ((k19 : Nat) : Int))]) ⟨rfl, rfl, rfl, rfl, rfl, rfl, trivial⟩ ?_
                refine CW.drawL (fun i_ => []) (fun i_ => by (try dsimp only); (repeat' split) <;> rfl) kMix_ 42 (by kernel_rfl) cx.top ?_
                intro w203 e204
                replace cx := cx.step e204 rfl
                replace s6 := s6.step e204
                replace b39 := b39.step e204 rfl
                replace s28 := s28.step e204
                replace s31 := s31.step e204
                replace s3 := s3.step e204
                clear e204
                refine ⟨[(fun L_ lab_ w_ v_ => v_ = .pointer (some ⟨g32, 0, none⟩) ∧ True),
    (fun L_ lab_ w_ v_ => v_ = .int .i64 x21.Peer ∧ True),
    (fun L_ lab_ w_ v_ => v_ = .slice oa4 a1.length c5 ∧ True),
    (fun L_ lab_ w_ v_ => v_ = .int .i64 ((k19 : Nat) : Int) ∧ True),
    (fun L_ lab_ w_ v_ => ∃ (p47 : Addr) (oa52 : Option Addr) (c53 : Nat) (oa55 : Option Addr) (c56 : Nat), v_ = .pointer (some p47) ∧ At lab_ w_ p47 [.int .i64 x51.Peer, .slice oa52 x51.Key.length c53, .slice oa55 x51.Data.length c56, .int .i64 x51.Until] ∧ SL Rep.u8 lab_ w_ oa52 c53 x51.Key ∧ SL Rep.u8 lab_ w_ oa55 c56 x51.Data ∧ True),
    (fun L_ lab_ w_ v_ => ∃ (p58 : Addr) (oa60 : Option Addr) (c61 : Nat) (oa63 : Option Addr) (c64 : Nat), v_ = .pointer (some p58) ∧ At lab_ w_ p58 [.int .i64 x51.Peer, .slice oa60 x51.Key.length c61, .slice oa63 x51.Data.length c64, .int .i64 x51.Until] ∧ SL Rep.u8 lab_ w_ oa60 c61 x51.Key ∧ SL Rep.u8 lab_ w_ oa63 c64 x51.Data ∧ True),
    (fun L_ lab_ w_ v_ => v_ = .int .i64 x51.Peer ∧ True),
    (fun L_ lab_ w_ v_ => v_ = .bool x78 ∧ True),
    (fun L_ lab_ w_ v_ => v_ = .bool x78 ∧ True),
    (fun L_ lab_ w_ v_ => v_ = .pointer (some ⟨g32, 3, none⟩) ∧ True),
    (fun L_ lab_ w_ v_ => v_ = .int .i64 x21.Until ∧ True),
    (fun L_ lab_ w_ v_ => v_ = .slice oa4 a1.length c5 ∧ True),
    (fun L_ lab_ w_ v_ => v_ = .int .i64 ((k19 : Nat) : Int) ∧ True),
    (fun L_ lab_ w_ v_ => ∃ (p100 : Addr) (oa105 : Option Addr) (c106 : Nat) (oa108 : Option Addr) (c109 : Nat), v_ = .pointer (some p100) ∧ At lab_ w_ p100 [.int .i64 x104.Peer, .slice oa105 x104.Key.length c106, .slice oa108 x104.Data.length c109, .int .i64 x104.Until] ∧ SL Rep.u8 lab_ w_ oa105 c106 x104.Key ∧ SL Rep.u8 lab_ w_ oa108 c109 x104.Data ∧ True),
    (fun L_ lab_ w_ v_ => ∃ (p111 : Addr) (oa113 : Option Addr) (c114 : Nat) (oa116 : Option Addr) (c117 : Nat), v_ = .pointer (some (p111.add 3)) ∧ At lab_ w_ p111 [.int .i64 x104.Peer, .slice oa113 x104.Key.length c114, .slice oa116 x104.Data.length c117, .int .i64 x104.Until] ∧ SL Rep.u8 lab_ w_ oa113 c114 x104.Key ∧ SL Rep.u8 lab_ w_ oa116 c117 x104.Data ∧ True),
    (fun L_ lab_ w_ v_ => v_ = .int .i64 x104.Until ∧ True),
    (fun L_ lab_ w_ v_ => v_ = .bool x134 ∧ True),
    (fun L_ lab_ w_ v_ => v_ = .bool x134 ∧ True),
    (fun L_ lab_ w_ v_ => v_ = .bool x134 ∧ True),
    (fun L_ lab_ w_ v_ => v_ = .pointer (some ⟨g32, 1, none⟩) ∧ True),
    (fun L_ lab_ w_ v_ => v_ = .slice oa26 x21.Key.length c27 ∧ True),
    (fun L_ lab_ w_ v_ => v_ = strV x21.Key ∧ True),
    (fun L_ lab_ w_ v_ => v_ = .slice oa4 a1.length c5 ∧ True),
    (fun L_ lab_ w_ v_ => v_ = .int .i64 ((k19 : Nat) : Int) ∧ True),
    (fun L_ lab_ w_ v_ => ∃ (p157 : Addr) (oa162 : Option Addr) (c163 : Nat) (oa165 : Option Addr) (c166 : Nat), v_ = .pointer (some p157) ∧ At lab_ w_ p157 [.int .i64 x161.Peer, .slice oa162 x161.Key.length c163, .slice oa165 x161.Data.length c166, .int .i64 x161.Until] ∧ SL Rep.u8 lab_ w_ oa162 c163 x161.Key ∧ SL Rep.u8 lab_ w_ oa165 c166 x161.Data ∧ True),
    (fun L_ lab_ w_ v_ => ∃ (p168 : Addr) (oa170 : Option Addr) (c171 : Nat) (oa173 : Option Addr) (c174 : Nat), v_ = .pointer (some (p168.add 1)) ∧ At lab_ w_ p168 [.int .i64 x161.Peer, .slice oa170 x161.Key.length c171, .slice oa173 x161.Data.length c174, .int .i64 x161.Until] ∧ SL Rep.u8 lab_ w_ oa170 c171 x161.Key ∧ SL Rep.u8 lab_ w_ oa173 c174 x161.Data ∧ True),
    (fun L_ lab_ w_ v_ => ∃ (oa180 : Option Addr) (c181 : Nat), v_ = .slice oa180 x161.Key.length c181 ∧ SL Rep.u8 lab_ w_ oa180 c181 x161.Key ∧ True),
    (fun L_ lab_ w_ v_ => v_ = strV x161.Key ∧ True),
    (fun L_ lab_ w_ v_ => v_ = .bool x196 ∧ True),
    (fun L_ lab_ w_ v_ => v_ = .bool x196 ∧ True),
    (fun L_ lab_ w_ v_ => v_ = .bool x196 ∧ True),
    (fun L_ lab_ w_ v_ => v_ = undef ∧ True),
    (fun L_ lab_ w_ v_ => v_ = undef ∧ True),
    (fun L_ lab_ w_ v_ => v_ = undef ∧ True),
    (fun L_ lab_ w_ v_ => v_ = undef ∧ True),
    (fun L_ lab_ w_ v_ => v_ = undef ∧ True),
    (fun L_ lab_ w_ v_ => v_ = undef ∧ True),
    (fun L_ lab_ w_ v_ => v_ = undef ∧ True),
    (fun L_ lab_ w_ v_ => v_ = undef ∧ True),
    (fun L_ lab_ w_ v_ => v_ = undef ∧ True),
    (fun L_ lab_ w_ v_ => v_ = undef ∧ True),
    (fun L_ lab_ w_ v_ => v_ = .bool true ∧ True)], (fun L_ lab_ w_ => Cx [] w lab w_ lab_ ∧ SL R_api_Partial lab_ w_ oa4 c5 a1 ∧ Box lab_ w_ 16 g32 63 [.int .i64 x21.Peer, .slice oa26 x21.Key.length c27, .slice oa29 x21.Data.length c30, .int .i64 x21.Until] ∧ SL Rep.u8 lab_ w_ oa26 c27 x21.Key ∧ SL Rep.u8 lab_ w_ oa29 c30 x21.Data ∧ SL R_api_Partial lab_ w_ oa1 c2 a0 ∧ True), ?_, ⟨cx, s6, b39, s28, s31, s3, trivial⟩, ?_, ?_⟩
                · exact ⟨by rintro i_ L_ lab_ w_ lab2_ w2_ v_ hne_ hd_ hk_ hp_ ⟨hv_, _⟩; exact ⟨hv_, trivial⟩, by rintro i_ L_ lab_ w_ lab2_ w2_ v_ hne_ hd_ hk_ hp_ ⟨hv_, _⟩; exact ⟨hv_, trivial⟩, by rintro i_ L_ lab_ w_ lab2_ w2_ v_ hne_ hd_ hk_ hp_ ⟨hv_, _⟩; exact ⟨hv_, trivial⟩, by rintro i_ L_ lab_ w_ lab2_ w2_ v_ hne_ hd_ hk_ hp_ ⟨hv_, _⟩; exact ⟨hv_, trivial⟩, by rintro i_ L_ lab_ w_ lab2_ w2_ v_ hne_ hd_ hk_ hp_ ⟨p47, oa52, c53, oa55, c56, hv_, ha50, s54, s57, _⟩; exact ⟨p47, oa52, c53, oa55, c56, hv_, (ha50.keep hp_), (s54.keep hp_), (s57.keep hp_), trivial⟩, by rintro i_ L_ lab_ w_ lab2_ w2_ v_ hne_ hd_ hk_ hp_ ⟨p58, oa60, c61, oa63, c64, hv_, ha59, s62, s65, _⟩; exact ⟨p58, oa60, c61, oa63, c64, hv_, (ha59.keep hp_), (s62.keep hp_), (s65.keep hp_), trivial⟩, by rintro i_ L_ lab_ w_ lab2_ w2_ v_ hne_ hd_ hk_ hp_ ⟨hv_, _⟩; exact ⟨hv_, trivial⟩, by rintro i_ L_ lab_ w_ lab2_ w2_ v_ hne_ hd_ hk_ hp_ ⟨hv_, _⟩; exact ⟨hv_, trivial⟩, by rintro i_ L_ lab_ w_ lab2_ w2_ v_ hne_ hd_ hk_ hp_ ⟨hv_, _⟩; exact ⟨hv_, trivial⟩, by rintro i_ L_ lab_ w_ lab2_ w2_ v_ hne_ hd_ hk_ hp_ ⟨hv_, _⟩; exact ⟨hv_, trivial⟩, by rintro i_ L_ lab_ w_ lab2_ w2_ v_ hne_ hd_ hk_ hp_ ⟨hv_, _⟩; exact ⟨hv_, trivial⟩, by rintro i_ L_ lab_ w_ lab2_ w2_ v_ hne_ hd_ hk_ hp_ ⟨hv_, _⟩; exact ⟨hv_, trivial⟩, by rintro i_ L_ lab_ w_ lab2_ w2_ v_ hne_ hd_ hk_ hp_ ⟨hv_, _⟩; exact ⟨hv_, trivial⟩, by rintro i_ L_ lab_ w_ lab2_ w2_ v_ hne_ hd_ hk_ hp_ ⟨p100, oa105, c106, oa108, c109, hv_, ha103, s107, s110, _⟩; exact ⟨p100, oa105, c106, oa108, c109, hv_, (ha103.keep hp_), (s107.keep hp_), (s110.keep hp_), trivial⟩, by rintro i_ L_ lab_ w_ lab2_ w2_ v_ hne_ hd_ hk_ hp_ ⟨p111, oa113, c114, oa116, c117, hv_, ha112, s115, s118, _⟩; exact ⟨p111, oa113, c114, oa116, c117, hv_, (ha112.keep hp_), (s115.keep hp_), (s118.keep hp_), trivial⟩, by rintro i_ L_ lab_ w_ lab2_ w2_ v_ hne_ hd_ hk_ hp_ ⟨hv_, _⟩; exact ⟨hv_, trivial⟩, by rintro i_ L_ lab_ w_ lab2_ w2_ v_ hne_ hd_ hk_ hp_ ⟨hv_, _⟩; exact ⟨hv_, trivial⟩, by rintro i_ L_ lab_ w_ lab2_ w2_ v_ hne_ hd_ hk_ hp_ ⟨hv_, _⟩; exact ⟨hv_, trivial⟩, by rintro i_ L_ lab_ w_ lab2_ w2_ v_ hne_ hd_ hk_ hp_ ⟨hv_, _⟩; exact ⟨hv_, trivial⟩, by rintro i_ L_ lab_ w_ lab2_ w2_ v_ hne_ hd_ hk_ hp_ ⟨hv_, _⟩; exact ⟨hv_, trivial⟩, by rintro i_ L_ lab_ w_ lab2_ w2_ v_ hne_ hd_ hk_ hp_ ⟨hv_, _⟩; exact ⟨hv_, trivial⟩, by rintro i_ L_ lab_ w_ lab2_ w2_ v_ hne_ hd_ hk_ hp_ ⟨hv_, _⟩; exact ⟨hv_, trivial⟩, by rintro i_ L_ lab_ w_ lab2_ w2_ v_ hne_ hd_ hk_ hp_ ⟨hv_, _⟩; exact ⟨hv_, trivial⟩, by rintro i_ L_ lab_ w_ lab2_ w2_ v_ hne_ hd_ hk_ hp_ ⟨hv_, _⟩; exact ⟨hv_, trivial⟩, by rintro i_ L_ lab_ w_ lab2_ w2_ v_ hne_ hd_ hk_ hp_ ⟨p157, oa162, c163, oa165, c166, hv_, ha160, s164, s167, _⟩; exact ⟨p157, oa162, c163, oa165, c166, hv_, (ha160.keep hp_), (s164.keep hp_), (s167.keep hp_), trivial⟩, by rintro i_ L_ lab_ w_ lab2_ w2_ v_ hne_ hd_ hk_ hp_ ⟨p168, oa170, c171, oa173, c174, hv_, ha169, s172, s175, _⟩; exact ⟨p168, oa170, c171, oa173, c174, hv_, (ha169.keep hp_), (s172.keep hp_), (s175.keep hp_), trivial⟩, by rintro i_ L_ lab_ w_ lab2_ w2_ v_ hne_ hd_ hk_ hp_ ⟨oa180, c181, hv_, s182, _⟩; exact ⟨oa180, c181, hv_, (s182.keep hp_), trivial⟩, by rintro i_ L_ lab_ w_ lab2_ w2_ v_ hne_ hd_ hk_ hp_ ⟨hv_, _⟩; exact ⟨hv_, trivial⟩, by rintro i_ L_ lab_ w_ lab2_ w2_ v_ hne_ hd_ hk_ hp_ ⟨hv_, _⟩; exact ⟨hv_, trivial⟩, by rintro i_ L_ lab_ w_ lab2_ w2_ v_ hne_ hd_ hk_ hp_ ⟨hv_, _⟩; exact ⟨hv_, trivial⟩, by rintro i_ L_ lab_ w_ lab2_ w2_ v_ hne_ hd_ hk_ hp_ ⟨hv_, _⟩; exact ⟨hv_, trivial⟩, by rintro i_ L_ lab_ w_ lab2_ w2_ v_ hne_ hd_ hk_ hp_ ⟨hv_, _⟩; exact ⟨hv_, trivial⟩, by rintro i_ L_ lab_ w_ lab2_ w2_ v_ hne_ hd_ hk_ hp_ ⟨hv_, _⟩; exact ⟨hv_, trivial⟩, by rintro i_ L_ lab_ w_ lab2_ w2_ v_ hne_ hd_ hk_ hp_ ⟨hv_, _⟩; exact ⟨hv_, trivial⟩, by rintro i_ L_ lab_ w_ lab2_ w2_ v_ hne_ hd_ hk_ hp_ ⟨hv_, _⟩; exact ⟨hv_, trivial⟩, by rintro i_ L_ lab_ w_ lab2_ w2_ v_ hne_ hd_ hk_ hp_ ⟨hv_, _⟩; exact ⟨hv_, trivial⟩, by rintro i_ L_ lab_ w_ lab2_ w2_ v_ hne_ hd_ hk_ hp_ ⟨hv_, _⟩; exact ⟨hv_, trivial⟩, by rintro i_ L_ lab_ w_ lab2_ w2_ v_ hne_ hd_ hk_ hp_ ⟨hv_, _⟩; exact ⟨hv_, trivial⟩, by rintro i_ L_ lab_ w_ lab2_ w2_ v_ hne_ hd_ hk_ hp_ ⟨hv_, _⟩; exact ⟨hv_, trivial⟩, by rintro i_ L_ lab_ w_ lab2_ w2_ v_ hne_ hd_ hk_ hp_ ⟨hv_, _⟩; exact ⟨hv_, trivial⟩, by rintro i_ L_ lab_ w_ lab2_ w2_ v_ hne_ hd_ hk_ hp_ ⟨hv_, _⟩; exact ⟨hv_, trivial⟩, by rintro i_ L_ lab_ w_ lab2_ w2_ v_ hne_ hd_ hk_ hp_ ⟨hv_, _⟩; exact ⟨hv_, trivial⟩, trivial⟩
                · refine (ob_succ (ob_succ (ob_succ (ob_succ (ob_succ (ob_succ (ob_succ (ob_succ (ob_succ (ob_succ (ob_succ (ob_succ (ob_succ (ob_succ (ob_succ (ob_succ (ob_succ (ob_succ (ob_succ (ob_succ (ob_succ (ob_succ (ob_succ (ob_succ (ob_succ (ob_succ (ob_succ (ob_succ (ob_succ (ob_succ (ob_succ (ob_succ (ob_succ (ob_succ (ob_succ (ob_succ (ob_succ (ob_succ (ob_succ (ob_succ (ob_succ (ob_succ ob_nil ?_) ?_) ?_) ?_) ?_) ?_) ?_) ?_) ?_) ?_) ?_) ?_) ?_) ?_) ?_) ?_) ?_) ?_) ?_) ?_) ?_) ?_) ?_) ?_) ?_) ?_) ?_) ?_) ?_) ?_) ?_) ?_) ?_) ?_) ?_) ?_) ?_) ?_) ?_) ?_) ?_) ?_)
                  · intro o_ L_ F_ lab_ w_ ho_ hL_ hw_ hcl_ hb_ hr_ hq_; obtain rfl := Option.some.inj (ho_ : some _ = some o_); obtain ⟨cx, s6, b39, s28, s31, s3, _⟩ := hq_
                    have hl6 := hb_ 6 _ rfl
                    refine LW.fldB 0 kFld_63_0 rfl wn rfl hl6 ?_
                    refine LW.nil ?_; intro a_ ha_
                    exact ⟨rfl, _, _, ha_, ⟨rfl, trivial⟩, Ke.refl, cx, s6, b39, s28, s31, s3, trivial⟩
                  · intro o_ L_ F_ lab_ w_ ho_ hL_ hw_ hcl_ hb_ hr_ hq_; obtain rfl := Option.some.inj (ho_ : some _ = some o_); obtain ⟨cx, s6, b39, s28, s31, s3, _⟩ := hq_
                    obtain ⟨q44, hl19, rfl, _⟩ := hr_ 0 (by decide) (hw_ 0 (by kernel_rfl))
                    replace hl19 : Gk.look F_ 19 = some (.pointer (some ⟨g32, 0, none⟩)) := hl19
                    refine LW.loadB1 b39 kOne_3 rfl wn rfl hl19 ?_
                    refine LW.nil ?_; intro a_ ha_
                    exact ⟨rfl, _, _, ha_, ⟨rfl, trivial⟩, Ke.refl, cx, s6, b39, s28, s31, s3, trivial⟩
                  · exact ob_moveb (v := .slice oa4 a1.length c5) rfl (fun _ h_ => h_ _ _ rfl) rfl (fun _ _ _ => ⟨rfl, trivial⟩) (fun _ _ _ h_ => h_)
                  · exact ob_moveb (v := .int .i64 ((k19 : Nat) : Int)) rfl (fun _ h_ => h_ _ _ rfl) rfl (fun _ _ _ => ⟨rfl, trivial⟩) (fun _ _ _ h_ => h_)
                  · intro o_ L_ F_ lab_ w_ ho_ hL_ hw_ hcl_ hb_ hr_ hq_; obtain rfl := Option.some.inj (ho_ : some _ = some o_); obtain ⟨cx, s6, b39, s28, s31, s3, _⟩ := hq_
                    obtain ⟨q45, hl21, rfl, _⟩ := hr_ 2 (by decide) (hw_ 2 (by kernel_rfl))
                    replace hl21 : Gk.look F_ 21 = some (.slice oa4 a1.length c5) := hl21
                    obtain ⟨q46, hl22, rfl, _⟩ := hr_ 3 (by decide) (hw_ 3 (by kernel_rfl))
                    replace hl22 : Gk.look F_ 22 = some (.int .i64 ((k19 : Nat) : Int)) := hl22
                    refine LW.index (bnd_ret hx_x51) s6 kSl_22 wn rfl hl21 hl22 ?_; intro x_ p47 cs48 hx_ hr49 ha50; cases hx_
                    obtain ⟨oa52, c53, oa55, c56, rfl, s54, s57, _⟩ := hr49
                    refine LW.nil ?_; intro a_ ha_
                    exact ⟨rfl, _, _, ha_, ⟨p47, oa52, c53, oa55, c56, rfl, ha50, s54, s57, trivial⟩, Ke.refl, cx, s6, b39, s28, s31, s3, trivial⟩
                  · intro o_ L_ F_ lab_ w_ ho_ hL_ hw_ hcl_ hb_ hr_ hq_; obtain rfl := Option.some.inj (ho_ : some _ = some o_); obtain ⟨cx, s6, b39, s28, s31, s3, _⟩ := hq_
                    obtain ⟨q66, hl23, p58, oa60, c61, oa63, c64, rfl, ha59, s62, s65, _⟩ := hr_ 4 (by decide) (hw_ 4 (by kernel_rfl))
                    replace hl23 : Gk.look F_ 23 = some (.pointer (some p58)) := hl23
                    refine LW.fldA kFld_63_0 wn rfl hl23 ?_
                    refine LW.nil ?_; intro a_ ha_
                    exact ⟨rfl, _, _, ha_, ⟨p58, oa60, c61, oa63, c64, rfl, ha59, s62, s65, trivial⟩, Ke.refl, cx, s6, b39, s28, s31, s3, trivial⟩
                  · intro o_ L_ F_ lab_ w_ ho_ hL_ hw_ hcl_ hb_ hr_ hq_; obtain rfl := Option.some.inj (ho_ : some _ = some o_); obtain ⟨cx, s6, b39, s28, s31, s3, _⟩ := hq_
                    obtain ⟨q75, hl24, p67, oa69, c70, oa72, c73, rfl, ha68, s71, s74, _⟩ := hr_ 5 (by decide) (hw_ 5 (by kernel_rfl))
                    replace hl24 : Gk.look F_ 24 = some (.pointer (some p67)) := hl24
                    refine LW.loadA1 (ha68.cell 0 rfl) kOne_3 wn rfl hl24 ?_
                    refine LW.nil ?_; intro a_ ha_
                    exact ⟨rfl, _, _, ha_, ⟨rfl, trivial⟩, Ke.refl, cx, s6, b39, s28, s31, s3, trivial⟩
                  · intro o_ L_ F_ lab_ w_ ho_ hL_ hw_ hcl_ hb_ hr_ hq_; obtain rfl := Option.some.inj (ho_ : some _ = some o_); obtain ⟨cx, s6, b39, s28, s31, s3, _⟩ := hq_
                    obtain ⟨q76, hl20, rfl, _⟩ := hr_ 1 (by decide) (hw_ 1 (by kernel_rfl))
                    replace hl20 : Gk.look F_ 20 = some (.int .i64 x21.Peer) := hl20
                    obtain ⟨q77, hl25, rfl, _⟩ := hr_ 6 (by decide) (hw_ 6 (by kernel_rfl))
                    replace hl25 : Gk.look F_ 25 = some (.int .i64 x51.Peer) := hl25
                    refine LW.neq (letm_eq hx_x78) wn rfl hl20 hl25 ?_; intro x_ hx_; cases hx_
                    refine LW.nil ?_; intro a_ ha_
                    exact ⟨rfl, _, _, ha_, ⟨rfl, trivial⟩, Ke.refl, cx, s6, b39, s28, s31, s3, trivial⟩
                  · intro o_ L_ F_ lab_ w_ ho_ hL_ hw_ hcl_ hb_ hr_ hq_; obtain rfl := Option.some.inj (ho_ : some _ = some o_); obtain ⟨cx, s6, b39, s28, s31, s3, _⟩ := hq_
                    obtain ⟨q79, hl26, rfl, _⟩ := hr_ 7 (by decide) (hw_ 7 (by kernel_rfl))
                    replace hl26 : Gk.look F_ 26 = some (.bool x78) := hl26
                    refine LW.move wn rfl hl26 ?_
                    refine LW.nil ?_; intro a_ ha_
                    exact ⟨rfl, _, _, ha_, ⟨rfl, trivial⟩, Ke.refl, cx, s6, b39, s28, s31, s3, trivial⟩
                  · intro o_ L_ F_ lab_ w_ ho_ hL_ hw_ hcl_ hb_ hr_ hq_; obtain rfl := Option.some.inj (ho_ : some _ = some o_); obtain ⟨cx, s6, b39, s28, s31, s3, _⟩ := hq_
                    have hl6 := hb_ 6 _ rfl
                    obtain ⟨q92, hl27, rfl, _⟩ := hr_ 8 (by decide) (hw_ 8 (by kernel_rfl))
                    replace hl27 : Gk.look F_ 27 = some (.bool x78) := hl27
                    refine LW.fldB 3 kFld_63_3 rfl (ws 27 rfl (bk hl27 hb80)) rfl hl6 ?_
                    refine LW.nil ?_; intro a_ ha_
                    exact ⟨rfl, _, _, ha_, ⟨rfl, trivial⟩, Ke.refl, cx, s6, b39, s28, s31, s3, trivial⟩
                  · intro o_ L_ F_ lab_ w_ ho_ hL_ hw_ hcl_ hb_ hr_ hq_; obtain rfl := Option.some.inj (ho_ : some _ = some o_); obtain ⟨cx, s6, b39, s28, s31, s3, _⟩ := hq_
                    obtain ⟨q93, hl28, rfl, _⟩ := hr_ 9 (by decide) (hw_ 9 (by kernel_rfl))
                    replace hl28 : Gk.look F_ 28 = some (.pointer (some ⟨g32, 3, none⟩)) := hl28
                    obtain ⟨q94, hl27, rfl, _⟩ := hr_ 8 (by decide) (hw_ 8 (by kernel_rfl))
                    replace hl27 : Gk.look F_ 27 = some (.bool x78) := hl27
                    refine LW.loadB1 b39 kOne_3 rfl (ws 27 rfl (bk hl27 hb80)) rfl hl28 ?_
                    refine LW.nil ?_; intro a_ ha_
                    exact ⟨rfl, _, _, ha_, ⟨rfl, trivial⟩, Ke.refl, cx, s6, b39, s28, s31, s3, trivial⟩
                  · intro o_ L_ F_ lab_ w_ ho_ hL_ hw_ hcl_ hb_ hr_ hq_; obtain rfl := Option.some.inj (ho_ : some _ = some o_); obtain ⟨cx, s6, b39, s28, s31, s3, _⟩ := hq_
                    have hl1 := hb_ 1 _ rfl
                    obtain ⟨q95, hl27, rfl, _⟩ := hr_ 8 (by decide) (hw_ 8 (by kernel_rfl))
                    replace hl27 : Gk.look F_ 27 = some (.bool x78) := hl27
                    refine LW.move (ws 27 rfl (bk hl27 hb80)) rfl hl1 ?_
                    refine LW.nil ?_; intro a_ ha_
                    exact ⟨rfl, _, _, ha_, ⟨rfl, trivial⟩, Ke.refl, cx, s6, b39, s28, s31, s3, trivial⟩
                  · intro o_ L_ F_ lab_ w_ ho_ hL_ hw_ hcl_ hb_ hr_ hq_; obtain rfl := Option.some.inj (ho_ : some _ = some o_); obtain ⟨cx, s6, b39, s28, s31, s3, _⟩ := hq_
                    have hl5 := hb_ 5 _ rfl
                    obtain ⟨q96, hl27, rfl, _⟩ := hr_ 8 (by decide) (hw_ 8 (by kernel_rfl))
                    replace hl27 : Gk.look F_ 27 = some (.bool x78) := hl27
                    refine LW.move (ws 27 rfl (bk hl27 hb80)) rfl hl5 ?_
                    refine LW.nil ?_; intro a_ ha_
                    exact ⟨rfl, _, _, ha_, ⟨rfl, trivial⟩, Ke.refl, cx, s6, b39, s28, s31, s3, trivial⟩
                  · intro o_ L_ F_ lab_ w_ ho_ hL_ hw_ hcl_ hb_ hr_ hq_; obtain rfl := Option.some.inj (ho_ : some _ = some o_); obtain ⟨cx, s6, b39, s28, s31, s3, _⟩ := hq_
                    obtain ⟨q97, hl30, rfl, _⟩ := hr_ 11 (by decide) (hw_ 11 (by kernel_rfl))
                    replace hl30 : Gk.look F_ 30 = some (.slice oa4 a1.length c5) := hl30
                    obtain ⟨q98, hl31, rfl, _⟩ := hr_ 12 (by decide) (hw_ 12 (by kernel_rfl))
                    replace hl31 : Gk.look F_ 31 = some (.int .i64 ((k19 : Nat) : Int)) := hl31
                    obtain ⟨q99, hl27, rfl, _⟩ := hr_ 8 (by decide) (hw_ 8 (by kernel_rfl))
                    replace hl27 : Gk.look F_ 27 = some (.bool x78) := hl27
                    refine LW.index (bnd_ret hx_x104) s6 kSl_22 (ws 27 rfl (bk hl27 hb80)) rfl hl30 hl31 ?_; intro x_ p100 cs101 hx_ hr102 ha103; cases hx_
                    obtain ⟨oa105, c106, oa108, c109, rfl, s107, s110, _⟩ := hr102
                    refine LW.nil ?_; intro a_ ha_
                    exact ⟨rfl, _, _, ha_, ⟨p100, oa105, c106, oa108, c109, rfl, ha103, s107, s110, trivial⟩, Ke.refl, cx, s6, b39, s28, s31, s3, trivial⟩
                  · intro o_ L_ F_ lab_ w_ ho_ hL_ hw_ hcl_ hb_ hr_ hq_; obtain rfl := Option.some.inj (ho_ : some _ = some o_); obtain ⟨cx, s6, b39, s28, s31, s3, _⟩ := hq_
                    obtain ⟨q119, hl32, p111, oa113, c114, oa116, c117, rfl, ha112, s115, s118, _⟩ := hr_ 13 (by decide) (hw_ 13 (by kernel_rfl))
                    replace hl32 : Gk.look F_ 32 = some (.pointer (some p111)) := hl32
                    obtain ⟨q120, hl27, rfl, _⟩ := hr_ 8 (by decide) (hw_ 8 (by kernel_rfl))
                    replace hl27 : Gk.look F_ 27 = some (.bool x78) := hl27
                    refine LW.fldA kFld_63_3 (ws 27 rfl (bk hl27 hb80)) rfl hl32 ?_
                    refine LW.nil ?_; intro a_ ha_
                    exact ⟨rfl, _, _, ha_, ⟨p111, oa113, c114, oa116, c117, rfl, ha112, s115, s118, trivial⟩, Ke.refl, cx, s6, b39, s28, s31, s3, trivial⟩
                  · intro o_ L_ F_ lab_ w_ ho_ hL_ hw_ hcl_ hb_ hr_ hq_; obtain rfl := Option.some.inj (ho_ : some _ = some o_); obtain ⟨cx, s6, b39, s28, s31, s3, _⟩ := hq_
                    obtain ⟨q129, hl33, p121, oa123, c124, oa126, c127, rfl, ha122, s125, s128, _⟩ := hr_ 14 (by decide) (hw_ 14 (by kernel_rfl))
                    replace hl33 : Gk.look F_ 33 = some (.pointer (some (p121.add 3))) := hl33
                    obtain ⟨q130, hl27, rfl, _⟩ := hr_ 8 (by decide) (hw_ 8 (by kernel_rfl))
                    replace hl27 : Gk.look F_ 27 = some (.bool x78) := hl27
                    refine LW.loadA1 (ha122.cell 3 rfl) kOne_3 (ws 27 rfl (bk hl27 hb80)) rfl hl33 ?_
                    refine LW.nil ?_; intro a_ ha_
                    exact ⟨rfl, _, _, ha_, ⟨rfl, trivial⟩, Ke.refl, cx, s6, b39, s28, s31, s3, trivial⟩
                  · intro o_ L_ F_ lab_ w_ ho_ hL_ hw_ hcl_ hb_ hr_ hq_; obtain rfl := Option.some.inj (ho_ : some _ = some o_); obtain ⟨cx, s6, b39, s28, s31, s3, _⟩ := hq_
                    obtain ⟨q131, hl29, rfl, _⟩ := hr_ 10 (by decide) (hw_ 10 (by kernel_rfl))
                    replace hl29 : Gk.look F_ 29 = some (.int .i64 x21.Until) := hl29
                    obtain ⟨q132, hl34, rfl, _⟩ := hr_ 15 (by decide) (hw_ 15 (by kernel_rfl))
                    replace hl34 : Gk.look F_ 34 = some (.int .i64 x104.Until) := hl34
                    obtain ⟨q133, hl27, rfl, _⟩ := hr_ 8 (by decide) (hw_ 8 (by kernel_rfl))
                    replace hl27 : Gk.look F_ 27 = some (.bool x78) := hl27
                    refine LW.neq (letm_eq hx_x134) (ws 27 rfl (bk hl27 hb80)) rfl hl29 hl34 ?_; intro x_ hx_; cases hx_
                    refine LW.nil ?_; intro a_ ha_
                    exact ⟨rfl, _, _, ha_, ⟨rfl, trivial⟩, Ke.refl, cx, s6, b39, s28, s31, s3, trivial⟩
                  · intro o_ L_ F_ lab_ w_ ho_ hL_ hw_ hcl_ hb_ hr_ hq_; obtain rfl := Option.some.inj (ho_ : some _ = some o_); obtain ⟨cx, s6, b39, s28, s31, s3, _⟩ := hq_
                    obtain ⟨q135, hl27, rfl, _⟩ := hr_ 8 (by decide) (hw_ 8 (by kernel_rfl))
                    replace hl27 : Gk.look F_ 27 = some (.bool x78) := hl27
                    obtain ⟨q136, hl35, rfl, _⟩ := hr_ 16 (by decide) (hw_ 16 (by kernel_rfl))
                    replace hl35 : Gk.look F_ 35 = some (.bool x134) := hl35
                    refine LW.pick_f wn rfl (bk hl27 hb80) hl35 ?_
                    refine LW.nil ?_; intro a_ ha_
                    exact ⟨rfl, _, _, ha_, ⟨rfl, trivial⟩, Ke.refl, cx, s6, b39, s28, s31, s3, trivial⟩
                  · intro o_ L_ F_ lab_ w_ ho_ hL_ hw_ hcl_ hb_ hr_ hq_; obtain rfl := Option.some.inj (ho_ : some _ = some o_); obtain ⟨cx, s6, b39, s28, s31, s3, _⟩ := hq_
                    obtain ⟨q137, hl36, rfl, _⟩ := hr_ 17 (by decide) (hw_ 17 (by kernel_rfl))
                    replace hl36 : Gk.look F_ 36 = some (.bool x134) := hl36
                    refine LW.move wn rfl hl36 ?_
                    refine LW.nil ?_; intro a_ ha_
                    exact ⟨rfl, _, _, ha_, ⟨rfl, trivial⟩, Ke.refl, cx, s6, b39, s28, s31, s3, trivial⟩
                  · intro o_ L_ F_ lab_ w_ ho_ hL_ hw_ hcl_ hb_ hr_ hq_; obtain rfl := Option.some.inj (ho_ : some _ = some o_); obtain ⟨cx, s6, b39, s28, s31, s3, _⟩ := hq_
                    have hl6 := hb_ 6 _ rfl
                    obtain ⟨q147, hl37, rfl, _⟩ := hr_ 18 (by decide) (hw_ 18 (by kernel_rfl))
                    replace hl37 : Gk.look F_ 37 = some (.bool x134) := hl37
                    refine LW.fldB 1 kFld_63_1 rfl (ws 37 rfl (bk hl37 hb138)) rfl hl6 ?_
                    refine LW.nil ?_; intro a_ ha_
                    exact ⟨rfl, _, _, ha_, ⟨rfl, trivial⟩, Ke.refl, cx, s6, b39, s28, s31, s3, trivial⟩
                  · intro o_ L_ F_ lab_ w_ ho_ hL_ hw_ hcl_ hb_ hr_ hq_; obtain rfl := Option.some.inj (ho_ : some _ = some o_); obtain ⟨cx, s6, b39, s28, s31, s3, _⟩ := hq_
                    obtain ⟨q148, hl38, rfl, _⟩ := hr_ 19 (by decide) (hw_ 19 (by kernel_rfl))
                    replace hl38 : Gk.look F_ 38 = some (.pointer (some ⟨g32, 1, none⟩)) := hl38
                    obtain ⟨q149, hl37, rfl, _⟩ := hr_ 18 (by decide) (hw_ 18 (by kernel_rfl))
                    replace hl37 : Gk.look F_ 37 = some (.bool x134) := hl37
                    refine LW.loadB1 b39 kOne_24 rfl (ws 37 rfl (bk hl37 hb138)) rfl hl38 ?_
                    refine LW.nil ?_; intro a_ ha_
                    exact ⟨rfl, _, _, ha_, ⟨rfl, trivial⟩, Ke.refl, cx, s6, b39, s28, s31, s3, trivial⟩
                  · intro o_ L_ F_ lab_ w_ ho_ hL_ hw_ hcl_ hb_ hr_ hq_; obtain rfl := Option.some.inj (ho_ : some _ = some o_); obtain ⟨cx, s6, b39, s28, s31, s3, _⟩ := hq_
                    obtain ⟨q150, hl39, rfl, _⟩ := hr_ 20 (by decide) (hw_ 20 (by kernel_rfl))
                    replace hl39 : Gk.look F_ 39 = some (.slice oa26 x21.Key.length c27) := hl39
                    obtain ⟨q151, hl37, rfl, _⟩ := hr_ 18 (by decide) (hw_ 18 (by kernel_rfl))
                    replace hl37 : Gk.look F_ 37 = some (.bool x134) := hl37
                    refine LW.b2s (xs := x21.Key) s28 kUnd_24 kUnd_5 kUnd_9 (ws 37 rfl (bk hl37 hb138)) rfl hl39 ?_
                    refine LW.nil ?_; intro a_ ha_
                    exact ⟨rfl, _, _, ha_, ⟨rfl, trivial⟩, Ke.refl, cx, s6, b39, s28, s31, s3, trivial⟩
                  · intro o_ L_ F_ lab_ w_ ho_ hL_ hw_ hcl_ hb_ hr_ hq_; obtain rfl := Option.some.inj (ho_ : some _ = some o_); obtain ⟨cx, s6, b39, s28, s31, s3, _⟩ := hq_
                    have hl1 := hb_ 1 _ rfl
                    obtain ⟨q152, hl37, rfl, _⟩ := hr_ 18 (by decide) (hw_ 18 (by kernel_rfl))
                    replace hl37 : Gk.look F_ 37 = some (.bool x134) := hl37
                    refine LW.move (ws 37 rfl (bk hl37 hb138)) rfl hl1 ?_
                    refine LW.nil ?_; intro a_ ha_
                    exact ⟨rfl, _, _, ha_, ⟨rfl, trivial⟩, Ke.refl, cx, s6, b39, s28, s31, s3, trivial⟩
                  · intro o_ L_ F_ lab_ w_ ho_ hL_ hw_ hcl_ hb_ hr_ hq_; obtain rfl := Option.some.inj (ho_ : some _ = some o_); obtain ⟨cx, s6, b39, s28, s31, s3, _⟩ := hq_
                    have hl5 := hb_ 5 _ rfl
                    obtain ⟨q153, hl37, rfl, _⟩ := hr_ 18 (by decide) (hw_ 18 (by kernel_rfl))
                    replace hl37 : Gk.look F_ 37 = some (.bool x134) := hl37
                    refine LW.move (ws 37 rfl (bk hl37 hb138)) rfl hl5 ?_
                    refine LW.nil ?_; intro a_ ha_
                    exact ⟨rfl, _, _, ha_, ⟨rfl, trivial⟩, Ke.refl, cx, s6, b39, s28, s31, s3, trivial⟩
                  · intro o_ L_ F_ lab_ w_ ho_ hL_ hw_ hcl_ hb_ hr_ hq_; obtain rfl := Option.some.inj (ho_ : some _ = some o_); obtain ⟨cx, s6, b39, s28, s31, s3, _⟩ := hq_
                    obtain ⟨q154, hl41, rfl, _⟩ := hr_ 22 (by decide) (hw_ 22 (by kernel_rfl))
                    replace hl41 : Gk.look F_ 41 = some (.slice oa4 a1.length c5) := hl41
                    obtain ⟨q155, hl42, rfl, _⟩ := hr_ 23 (by decide) (hw_ 23 (by kernel_rfl))
                    replace hl42 : Gk.look F_ 42 = some (.int .i64 ((k19 : Nat) : Int)) := hl42
                    obtain ⟨q156, hl37, rfl, _⟩ := hr_ 18 (by decide) (hw_ 18 (by kernel_rfl))
                    replace hl37 : Gk.look F_ 37 = some (.bool x134) := hl37
                    refine LW.index (bnd_ret hx_x161) s6 kSl_22 (ws 37 rfl (bk hl37 hb138)) rfl hl41 hl42 ?_; intro x_ p157 cs158 hx_ hr159 ha160; cases hx_
                    obtain ⟨oa162, c163, oa165, c166, rfl, s164, s167, _⟩ := hr159
                    refine LW.nil ?_; intro a_ ha_
                    exact ⟨rfl, _, _, ha_, ⟨p157, oa162, c163, oa165, c166, rfl, ha160, s164, s167, trivial⟩, Ke.refl, cx, s6, b39, s28, s31, s3, trivial⟩
                  · intro o_ L_ F_ lab_ w_ ho_ hL_ hw_ hcl_ hb_ hr_ hq_; obtain rfl := Option.some.inj (ho_ : some _ = some o_); obtain ⟨cx, s6, b39, s28, s31, s3, _⟩ := hq_
                    obtain ⟨q176, hl43, p168, oa170, c171, oa173, c174, rfl, ha169, s172, s175, _⟩ := hr_ 24 (by decide) (hw_ 24 (by kernel_rfl))
                    replace hl43 : Gk.look F_ 43 = some (.pointer (some p168)) := hl43
                    obtain ⟨q177, hl37, rfl, _⟩ := hr_ 18 (by decide) (hw_ 18 (by kernel_rfl))
                    replace hl37 : Gk.look F_ 37 = some (.bool x134) := hl37
                    refine LW.fldA kFld_63_1 (ws 37 rfl (bk hl37 hb138)) rfl hl43 ?_
                    refine LW.nil ?_; intro a_ ha_
                    exact ⟨rfl, _, _, ha_, ⟨p168, oa170, c171, oa173, c174, rfl, ha169, s172, s175, trivial⟩, Ke.refl, cx, s6, b39, s28, s31, s3, trivial⟩
                  · intro o_ L_ F_ lab_ w_ ho_ hL_ hw_ hcl_ hb_ hr_ hq_; obtain rfl := Option.some.inj (ho_ : some _ = some o_); obtain ⟨cx, s6, b39, s28, s31, s3, _⟩ := hq_
                    obtain ⟨q186, hl44, p178, oa180, c181, oa183, c184, rfl, ha179, s182, s185, _⟩ := hr_ 25 (by decide) (hw_ 25 (by kernel_rfl))
                    replace hl44 : Gk.look F_ 44 = some (.pointer (some (p178.add 1))) := hl44
                    obtain ⟨q187, hl37, rfl, _⟩ := hr_ 18 (by decide) (hw_ 18 (by kernel_rfl))
                    replace hl37 : Gk.look F_ 37 = some (.bool x134) := hl37
                    refine LW.loadA1 (ha179.cell 1 rfl) kOne_24 (ws 37 rfl (bk hl37 hb138)) rfl hl44 ?_
                    refine LW.nil ?_; intro a_ ha_
                    exact ⟨rfl, _, _, ha_, ⟨oa180, c181, rfl, s182, trivial⟩, Ke.refl, cx, s6, b39, s28, s31, s3, trivial⟩
                  · intro o_ L_ F_ lab_ w_ ho_ hL_ hw_ hcl_ hb_ hr_ hq_; obtain rfl := Option.some.inj (ho_ : some _ = some o_); obtain ⟨cx, s6, b39, s28, s31, s3, _⟩ := hq_
                    obtain ⟨q191, hl45, oa188, c189, rfl, s190, _⟩ := hr_ 26 (by decide) (hw_ 26 (by kernel_rfl))
                    replace hl45 : Gk.look F_ 45 = some (.slice oa188 x161.Key.length c189) := hl45
                    obtain ⟨q192, hl37, rfl, _⟩ := hr_ 18 (by decide) (hw_ 18 (by kernel_rfl))
                    replace hl37 : Gk.look F_ 37 = some (.bool x134) := hl37
                    refine LW.b2s (xs := x161.Key) s190 kUnd_24 kUnd_5 kUnd_9 (ws 37 rfl (bk hl37 hb138)) rfl hl45 ?_
                    refine LW.nil ?_; intro a_ ha_
                    exact ⟨rfl, _, _, ha_, ⟨rfl, trivial⟩, Ke.refl, cx, s6, b39, s28, s31, s3, trivial⟩
                  · intro o_ L_ F_ lab_ w_ ho_ hL_ hw_ hcl_ hb_ hr_ hq_; obtain rfl := Option.some.inj (ho_ : some _ = some o_); obtain ⟨cx, s6, b39, s28, s31, s3, _⟩ := hq_
                    obtain ⟨q193, hl40, rfl, _⟩ := hr_ 21 (by decide) (hw_ 21 (by kernel_rfl))
                    replace hl40 : Gk.look F_ 40 = some (strV x21.Key) := hl40
                    obtain ⟨q194, hl46, rfl, _⟩ := hr_ 27 (by decide) (hw_ 27 (by kernel_rfl))
                    replace hl46 : Gk.look F_ 46 = some (strV x161.Key) := hl46
                    obtain ⟨q195, hl37, rfl, _⟩ := hr_ 18 (by decide) (hw_ 18 (by kernel_rfl))
                    replace hl37 : Gk.look F_ 37 = some (.bool x134) := hl37
                    refine LW.nes (letm_eq hx_x196) (ws 37 rfl (bk hl37 hb138)) rfl hl40 hl46 ?_; intro x_ hx_; cases hx_
                    refine LW.nil ?_; intro a_ ha_
                    exact ⟨rfl, _, _, ha_, ⟨rfl, trivial⟩, Ke.refl, cx, s6, b39, s28, s31, s3, trivial⟩
                  · intro o_ L_ F_ lab_ w_ ho_ hL_ hw_ hcl_ hb_ hr_ hq_; obtain rfl := Option.some.inj (ho_ : some _ = some o_); obtain ⟨cx, s6, b39, s28, s31, s3, _⟩ := hq_
                    obtain ⟨q197, hl37, rfl, _⟩ := hr_ 18 (by decide) (hw_ 18 (by kernel_rfl))
                    replace hl37 : Gk.look F_ 37 = some (.bool x134) := hl37
                    obtain ⟨q198, hl47, rfl, _⟩ := hr_ 28 (by decide) (hw_ 28 (by kernel_rfl))
                    replace hl47 : Gk.look F_ 47 = some (.bool x196) := hl47
                    refine LW.pick_f wn rfl (bk hl37 hb138) hl47 ?_
                    refine LW.nil ?_; intro a_ ha_
                    exact ⟨rfl, _, _, ha_, ⟨rfl, trivial⟩, Ke.refl, cx, s6, b39, s28, s31, s3, trivial⟩
                  · intro o_ L_ F_ lab_ w_ ho_ hL_ hw_ hcl_ hb_ hr_ hq_; obtain rfl := Option.some.inj (ho_ : some _ = some o_); obtain ⟨cx, s6, b39, s28, s31, s3, _⟩ := hq_
                    obtain ⟨q199, hl48, rfl, _⟩ := hr_ 29 (by decide) (hw_ 29 (by kernel_rfl))
                    replace hl48 : Gk.look F_ 48 = some (.bool x196) := hl48
                    refine LW.move wn rfl hl48 ?_
                    refine LW.nil ?_; intro a_ ha_
                    exact ⟨rfl, _, _, ha_, ⟨rfl, trivial⟩, Ke.refl, cx, s6, b39, s28, s31, s3, trivial⟩
                  · exact ob_skip (b' := true) 30 rfl (by kernel_rfl) (by decide) ⟨_, rfl⟩ (fun _ _ _ _ h_ => .inl (h_.1.trans (congrArg Value.bool hb200))) rfl rfl (fun _ _ _ => ⟨rfl, trivial⟩) (fun _ _ _ h_ => h_)
                  · exact ob_skip (b' := true) 30 rfl (by kernel_rfl) (by decide) ⟨_, rfl⟩ (fun _ _ _ _ h_ => .inl (h_.1.trans (congrArg Value.bool hb200))) rfl rfl (fun _ _ _ => ⟨rfl, trivial⟩) (fun _ _ _ h_ => h_)
                  · exact ob_skip (b' := true) 30 rfl (by kernel_rfl) (by decide) ⟨_, rfl⟩ (fun _ _ _ _ h_ => .inl (h_.1.trans (congrArg Value.bool hb200))) rfl rfl (fun _ _ _ => ⟨rfl, trivial⟩) (fun _ _ _ h_ => h_)
                  · exact ob_skip (b' := true) 30 rfl (by kernel_rfl) (by decide) ⟨_, rfl⟩ (fun _ _ _ _ h_ => .inl (h_.1.trans (congrArg Value.bool hb200))) rfl rfl (fun _ _ _ => ⟨rfl, trivial⟩) (fun _ _ _ h_ => h_)
                  · exact ob_skip (b' := true) 30 rfl (by kernel_rfl) (by decide) ⟨_, rfl⟩ (fun _ _ _ _ h_ => .inl (h_.1.trans (congrArg Value.bool hb200))) rfl rfl (fun _ _ _ => ⟨rfl, trivial⟩) (fun _ _ _ h_ => h_)
                  · exact ob_skip (b' := true) 30 rfl (by kernel_rfl) (by decide) ⟨_, rfl⟩ (fun _ _ _ _ h_ => .inl (h_.1.trans (congrArg Value.bool hb200))) rfl rfl (fun _ _ _ => ⟨rfl, trivial⟩) (fun _ _ _ h_ => h_)
                  · exact ob_skip (b' := true) 30 rfl (by kernel_rfl) (by decide) ⟨_, rfl⟩ (fun _ _ _ _ h_ => .inl (h_.1.trans (congrArg Value.bool hb200))) rfl rfl (fun _ _ _ => ⟨rfl, trivial⟩) (fun _ _ _ h_ => h_)
                  · exact ob_skip (b' := true) 30 rfl (by kernel_rfl) (by decide) ⟨_, rfl⟩ (fun _ _ _ _ h_ => .inl (h_.1.trans (congrArg Value.bool hb200))) rfl rfl (fun _ _ _ => ⟨rfl, trivial⟩) (fun _ _ _ h_ => h_)
                  · exact ob_skip (b' := true) 30 rfl (by kernel_rfl) (by decide) ⟨_, rfl⟩ (fun _ _ _ _ h_ => .inl (h_.1.trans (congrArg Value.bool hb200))) rfl rfl (fun _ _ _ => ⟨rfl, trivial⟩) (fun _ _ _ h_ => h_)
                  · exact ob_skip (b' := true) 30 rfl (by kernel_rfl) (by decide) ⟨_, rfl⟩ (fun _ _ _ _ h_ => .inl (h_.1.trans (congrArg Value.bool hb200))) rfl rfl (fun _ _ _ => ⟨rfl, trivial⟩) (fun _ _ _ h_ => h_)
                  · intro o_ L_ F_ lab_ w_ ho_ hL_ hw_ hcl_ hb_ hr_ hq_; obtain rfl := Option.some.inj (ho_ : some _ = some o_); obtain ⟨cx, s6, b39, s28, s31, s3, _⟩ := hq_
                    obtain ⟨q201, hl49, rfl, _⟩ := hr_ 30 (by decide) (hw_ 30 (by kernel_rfl))
                    replace hl49 : Gk.look F_ 49 = some (.bool x196) := hl49
                    obtain ⟨q202, hl59, rfl, _⟩ := hr_ 40 (by decide) (hw_ 40 (by kernel_rfl))
                    replace hl59 : Gk.look F_ 59 = some (undef) := hl59
                    refine LW.pick_t wn rfl (bk hl49 hb200) rfl ?_
                    refine LW.nil ?_; intro a_ ha_
                    exact ⟨rfl, _, _, ha_, ⟨rfl, trivial⟩, Ke.refl, cx, s6, b39, s28, s31, s3, trivial⟩
                · intro F_ lab_ w_ hb_ hr_ hq_; obtain ⟨cx, s6, b39, s28, s31, s3, _⟩ := hq_
                  obtain ⟨q205, hl60, rfl, _⟩ := hr_ 41 (by decide)
                  refine LW.sub (G := [(1, .slice oa4 a1.length c5), (5, .int .i64 ((k19 : Nat) : Int)), (6, .pointer (some ⟨g32, 0, none⟩)), (12, .slice oa1 a0.length c2), (13, .int .i64 (a0.length : Int)), (14, .int .i64 ((k19 : Nat) : Int)), (60, .bool true)]) ⟨hb_ 1 _ rfl, hb_ 5 _ rfl, hb_ 6 _ rfl, hb_ 12 _ rfl, hb_ 13 _ rfl, hb_ 14 _ rfl, hl60, trivial⟩ ?_
                  simp only [List.drop_succ_cons, List.drop_nil, List.drop_zero]
                  refine LW.nil ?_
                  obtain rfl := Option.some.inj hm
                  refine EW.sub (G := [(1, .slice oa4 a1.length c5), (12, .slice oa1 a0.length c2), (13, .int .i64 (a0.length : Int)), (14, .int .i64 ((k19 : Nat) : Int)), (60, .bool true)]) ⟨rfl, rfl, rfl, rfl, rfl, trivial⟩ ?_
                  exact EW.join_n ⟨_, rfl, cx, s6, s3, trivial⟩
              · replace hm := cond_f hm hb200
                obtain ⟨x220, hx_x220, hm_⟩ := bnd_some hm; clear hm; have hm := hm_; clear hm_
                obtain ⟨x255, hx_x255, hm_⟩ := letm_some hm; clear hm; have hm := hm_; clear hm_
                refine CW.sub (G := [(1, .slice oa4 a1.length c5), (5, .int .i64 ((k19 : Nat) : Int)), (6, .pointer (some ⟨g32, 0, none⟩)), (12, .slice oa1 a0.length c2), (13, .int .i64 (a0.length : Int)), (14, .int .i64 ((k19 : Nat) : Int))]) ⟨rfl, rfl, rfl, rfl, rfl, rfl, trivial⟩ ?_
                refine CW.drawL (fun i_ => []) (fun i_ => by (try dsimp only); (repeat' split) <;> rfl) kMix_ 42 (by kernel_rfl) cx.top ?_
                intro w258 e259
                replace cx := cx.step e259 rfl
                replace s6 := s6.step e259
                replace b39 := b39.step e259 rfl
                replace s28 := s28.step e259
                replace s31 := s31.step e259
                replace s3 := s3.step e259
                clear e259
                refine ⟨[(fun L_ lab_ w_ v_ => v_ = .pointer (some ⟨g32, 0, none⟩) ∧ True),
    (fun L_ lab_ w_ v_ => v_ = .int .i64 x21.Peer ∧ True),
    (fun L_ lab_ w_ v_ => v_ = .slice oa4 a1.length c5 ∧ True),
    (fun L_ lab_ w_ v_ => v_ = .int .i64 ((k19 : Nat) : Int) ∧ True),
    (fun L_ lab_ w_ v_ => ∃ (p47 : Addr) (oa52 : Option Addr) (c53 : Nat) (oa55 : Option Addr) (c56 : Nat), v_ = .pointer (some p47) ∧ At lab_ w_ p47 [.int .i64 x51.Peer, .slice oa52 x51.Key.length c53, .slice oa55 x51.Data.length c56, .int .i64 x51.Until] ∧ SL Rep.u8 lab_ w_ oa52 c53 x51.Key ∧ SL Rep.u8 lab_ w_ oa55 c56 x51.Data ∧ True),
    (fun L_ lab_ w_ v_ => ∃ (p58 : Addr) (oa60 : Option Addr) (c61 : Nat) (oa63 : Option Addr) (c64 : Nat), v_ = .pointer (some p58) ∧ At lab_ w_ p58 [.int .i64 x51.Peer, .slice oa60 x51.Key.length c61, .slice oa63 x51.Data.length c64, .int .i64 x51.Until] ∧ SL Rep.u8 lab_ w_ oa60 c61 x51.Key ∧ SL Rep.u8 lab_ w_ oa63 c64 x51.Data ∧ True),
    (fun L_ lab_ w_ v_ => v_ = .int .i64 x51.Peer ∧ True),
    (fun L_ lab_ w_ v_ => v_ = .bool x78 ∧ True),
    (fun L_ lab_ w_ v_ => v_ = .bool x78 ∧ True),
    (fun L_ lab_ w_ v_ => v_ = .pointer (some ⟨g32, 3, none⟩) ∧ True),
    (fun L_ lab_ w_ v_ => v_ = .int .i64 x21.Until ∧ True),
    (fun L_ lab_ w_ v_ => v_ = .slice oa4 a1.length c5 ∧ True),
    (fun L_ lab_ w_ v_ => v_ = .int .i64 ((k19 : Nat) : Int) ∧ True),
    (fun L_ lab_ w_ v_ => ∃ (p100 : Addr) (oa105 : Option Addr) (c106 : Nat) (oa108 : Option Addr) (c109 : Nat), v_ = .pointer (some p100) ∧ At lab_ w_ p100 [.int .i64 x104.Peer, .slice oa105 x104.Key.length c106, .slice oa108 x104.Data.length c109, .int .i64 x104.Until] ∧ SL Rep.u8 lab_ w_ oa105 c106 x104.Key ∧ SL Rep.u8 lab_ w_ oa108 c109 x104.Data ∧ True),
    (fun L_ lab_ w_ v_ => ∃ (p111 : Addr) (oa113 : Option Addr) (c114 : Nat) (oa116 : Option Addr) (c117 : Nat), v_ = .pointer (some (p111.add 3)) ∧ At lab_ w_ p111 [.int .i64 x104.Peer, .slice oa113 x104.Key.length c114, .slice oa116 x104.Data.length c117, .int .i64 x104.Until] ∧ SL Rep.u8 lab_ w_ oa113 c114 x104.Key ∧ SL Rep.u8 lab_ w_ oa116 c117 x104.Data ∧ True),
    (fun L_ lab_ w_ v_ => v_ = .int .i64 x104.Until ∧ True),
    (fun L_ lab_ w_ v_ => v_ = .bool x134 ∧ True),
    (fun L_ lab_ w_ v_ => v_ = .bool x134 ∧ True),
    (fun L_ lab_ w_ v_ => v_ = .bool x134 ∧ True),
    (fun L_ lab_ w_ v_ => v_ = .pointer (some ⟨g32, 1, none⟩) ∧ True),
    (fun L_ lab_ w_ v_ => v_ = .slice oa26 x21.Key.length c27 ∧ True),
    (fun L_ lab_ w_ v_ => v_ = strV x21.Key ∧ True),
    (fun L_ lab_ w_ v_ => v_ = .slice oa4 a1.length c5 ∧ True),
    (fun L_ lab_ w_ v_ => v_ = .int .i64 ((k19 : Nat) : Int) ∧ True),
    (fun L_ lab_ w_ v_ => ∃ (p157 : Addr) (oa162 : Option Addr) (c163 : Nat) (oa165 : Option Addr) (c166 : Nat), v_ = .pointer (some p157) ∧ At lab_ w_ p157 [.int .i64 x161.Peer, .slice oa162 x161.Key.length c163, .slice oa165 x161.Data.length c166, .int .i64 x161.Until] ∧ SL Rep.u8 lab_ w_ oa162 c163 x161.Key ∧ SL Rep.u8 lab_ w_ oa165 c166 x161.Data ∧ True),
    (fun L_ lab_ w_ v_ => ∃ (p168 : Addr) (oa170 : Option Addr) (c171 : Nat) (oa173 : Option Addr) (c174 : Nat), v_ = .pointer (some (p168.add 1)) ∧ At lab_ w_ p168 [.int .i64 x161.Peer, .slice oa170 x161.Key.length c171, .slice oa173 x161.Data.length c174, .int .i64 x161.Until] ∧ SL Rep.u8 lab_ w_ oa170 c171 x161.Key ∧ SL Rep.u8 lab_ w_ oa173 c174 x161.Data ∧ True),
    (fun L_ lab_ w_ v_ => ∃ (oa180 : Option Addr) (c181 : Nat), v_ = .slice oa180 x161.Key.length c181 ∧ SL Rep.u8 lab_ w_ oa180 c181 x161.Key ∧ True),
    (fun L_ lab_ w_ v_ => v_ = strV x161.Key ∧ True),
    (fun L_ lab_ w_ v_ => v_ = .bool x196 ∧ True),
    (fun L_ lab_ w_ v_ => v_ = .bool x196 ∧ True),
    (fun L_ lab_ w_ v_ => v_ = .bool x196 ∧ True),
    (fun L_ lab_ w_ v_ => v_ = .pointer (some ⟨g32, 2, none⟩) ∧ True),
    (fun L_ lab_ w_ v_ => v_ = .slice oa29 x21.Data.length c30 ∧ True),
    (fun L_ lab_ w_ v_ => v_ = strV x21.Data ∧ True),
    (fun L_ lab_ w_ v_ => v_ = .slice oa4 a1.length c5 ∧ True),
    (fun L_ lab_ w_ v_ => v_ = .int .i64 ((k19 : Nat) : Int) ∧ True),
    (fun L_ lab_ w_ v_ => ∃ (p216 : Addr) (oa221 : Option Addr) (c222 : Nat) (oa224 : Option Addr) (c225 : Nat), v_ = .pointer (some p216) ∧ At lab_ w_ p216 [.int .i64 x220.Peer, .slice oa221 x220.Key.length c222, .slice oa224 x220.Data.length c225, .int .i64 x220.Until] ∧ SL Rep.u8 lab_ w_ oa221 c222 x220.Key ∧ SL Rep.u8 lab_ w_ oa224 c225 x220.Data ∧ True),
    (fun L_ lab_ w_ v_ => ∃ (p227 : Addr) (oa229 : Option Addr) (c230 : Nat) (oa232 : Option Addr) (c233 : Nat), v_ = .pointer (some (p227.add 2)) ∧ At lab_ w_ p227 [.int .i64 x220.Peer, .slice oa229 x220.Key.length c230, .slice oa232 x220.Data.length c233, .int .i64 x220.Until] ∧ SL Rep.u8 lab_ w_ oa229 c230 x220.Key ∧ SL Rep.u8 lab_ w_ oa232 c233 x220.Data ∧ True),
    (fun L_ lab_ w_ v_ => ∃ (oa242 : Option Addr) (c243 : Nat), v_ = .slice oa242 x220.Data.length c243 ∧ SL Rep.u8 lab_ w_ oa242 c243 x220.Data ∧ True),
    (fun L_ lab_ w_ v_ => v_ = strV x220.Data ∧ True),
    (fun L_ lab_ w_ v_ => v_ = .bool x255 ∧ True),
    (fun L_ lab_ w_ v_ => v_ = .bool x255 ∧ True)], (fun L_ lab_ w_ => Cx [] w lab w_ lab_ ∧ SL R_api_Partial lab_ w_ oa4 c5 a1 ∧ Box lab_ w_ 16 g32 63 [.int .i64 x21.Peer, .slice oa26 x21.Key.length c27, .slice oa29 x21.Data.length c30, .int .i64 x21.Until] ∧ SL Rep.u8 lab_ w_ oa26 c27 x21.Key ∧ SL Rep.u8 lab_ w_ oa29 c30 x21.Data ∧ SL R_api_Partial lab_ w_ oa1 c2 a0 ∧ True), ?_, ⟨cx, s6, b39, s28, s31, s3, trivial⟩, ?_, ?_⟩
                · exact ⟨by rintro i_ L_ lab_ w_ lab2_ w2_ v_ hne_ hd_ hk_ hp_ ⟨hv_, _⟩; exact ⟨hv_, trivial⟩, by rintro i_ L_ lab_ w_ lab2_ w2_ v_ hne_ hd_ hk_ hp_ ⟨hv_, _⟩; exact ⟨hv_, trivial⟩, by rintro i_ L_ lab_ w_ lab2_ w2_ v_ hne_ hd_ hk_ hp_ ⟨hv_, _⟩; exact ⟨hv_, trivial⟩, by rintro i_ L_ lab_ w_ lab2_ w2_ v_ hne_ hd_ hk_ hp_ ⟨hv_, _⟩; exact ⟨hv_, trivial⟩, by rintro i_ L_ lab_ w_ lab2_ w2_ v_ hne_ hd_ hk_ hp_ ⟨p47, oa52, c53, oa55, c56, hv_, ha50, s54, s57, _⟩; exact ⟨p47, oa52, c53, oa55, c56, hv_, (ha50.keep hp_), (s54.keep hp_), (s57.keep hp_), trivial⟩, by rintro i_ L_ lab_ w_ lab2_ w2_ v_ hne_ hd_ hk_ hp_ ⟨p58, oa60, c61, oa63, c64, hv_, ha59, s62, s65, _⟩; exact ⟨p58, oa60, c61, oa63, c64, hv_, (ha59.keep hp_), (s62.keep hp_), (s65.keep hp_), trivial⟩, by rintro i_ L_ lab_ w_ lab2_ w2_ v_ hne_ hd_ hk_ hp_ ⟨hv_, _⟩; exact ⟨hv_, trivial⟩, by rintro i_ L_ lab_ w_ lab2_ w2_ v_ hne_ hd_ hk_ hp_ ⟨hv_, _⟩; exact ⟨hv_, trivial⟩, by rintro i_ L_ lab_ w_ lab2_ w2_ v_ hne_ hd_ hk_ hp_ ⟨hv_, _⟩; exact ⟨hv_, trivial⟩, by rintro i_ L_ lab_ w_ lab2_ w2_ v_ hne_ hd_ hk_ hp_ ⟨hv_, _⟩; exact ⟨hv_, trivial⟩, by rintro i_ L_ lab_ w_ lab2_ w2_ v_ hne_ hd_ hk_ hp_ ⟨hv_, _⟩; exact ⟨hv_, trivial⟩, by rintro i_ L_ lab_ w_ lab2_ w2_ v_ hne_ hd_ hk_ hp_ ⟨hv_, _⟩; exact ⟨hv_, trivial⟩, by rintro i_ L_ lab_ w_ lab2_ w2_ v_ hne_ hd_ hk_ hp_ ⟨hv_, _⟩; exact ⟨hv_, trivial⟩, by rintro i_ L_ lab_ w_ lab2_ w2_ v_ hne_ hd_ hk_ hp_ ⟨p100, oa105, c106, oa108, c109, hv_, ha103, s107, s110, _⟩; exact ⟨p100, oa105, c106, oa108, c109, hv_, (ha103.keep hp_), (s107.keep hp_), (s110.keep hp_), trivial⟩, by rintro i_ L_ lab_ w_ lab2_ w2_ v_ hne_ hd_ hk_ hp_ ⟨p111, oa113, c114, oa116, c117, hv_, ha112, s115, s118, _⟩; exact ⟨p111, oa113, c114, oa116, c117, hv_, (ha112.keep hp_), (s115.keep hp_), (s118.keep hp_), trivial⟩, by rintro i_ L_ lab_ w_ lab2_ w2_ v_ hne_ hd_ hk_ hp_ ⟨hv_, _⟩; exact ⟨hv_, trivial⟩, by rintro i_ L_ lab_ w_ lab2_ w2_ v_ hne_ hd_ hk_ hp_ ⟨hv_, _⟩; exact ⟨hv_, trivial⟩, by rintro i_ L_ lab_ w_ lab2_ w2_ v_ hne_ hd_ hk_ hp_ ⟨hv_, _⟩; exact ⟨hv_, trivial⟩, by rintro i_ L_ lab_ w_ lab2_ w2_ v_ hne_ hd_ hk_ hp_ ⟨hv_, _⟩; exact ⟨hv_, trivial⟩, by rintro i_ L_ lab_ w_ lab2_ w2_ v_ hne_ hd_ hk_ hp_ ⟨hv_, _⟩; exact ⟨hv_, trivial⟩, by rintro i_ L_ lab_ w_ lab2_ w2_ v_ hne_ hd_ hk_ hp_ ⟨hv_, _⟩; exact ⟨hv_, trivial⟩, by rintro i_ L_ lab_ w_ lab2_ w2_ v_ hne_ hd_ hk_ hp_ ⟨hv_, _⟩; exact ⟨hv_, trivial⟩, by rintro i_ L_ lab_ w_ lab2_ w2_ v_ hne_ hd_ hk_ hp_ ⟨hv_, _⟩; exact ⟨hv_, trivial⟩, by rintro i_ L_ lab_ w_ lab2_ w2_ v_ hne_ hd_ hk_ hp_ ⟨hv_, _⟩; exact ⟨hv_, trivial⟩, by rintro i_ L_ lab_ w_ lab2_ w2_ v_ hne_ hd_ hk_ hp_ ⟨p157, oa162, c163, oa165, c166, hv_, ha160, s164, s167, _⟩; exact ⟨p157, oa162, c163, oa165, c166, hv_, (ha160.keep hp_), (s164.keep hp_), (s167.keep hp_), trivial⟩, by rintro i_ L_ lab_ w_ lab2_ w2_ v_ hne_ hd_ hk_ hp_ ⟨p168, oa170, c171, oa173, c174, hv_, ha169, s172, s175, _⟩; exact ⟨p168, oa170, c171, oa173, c174, hv_, (ha169.keep hp_), (s172.keep hp_), (s175.keep hp_), trivial⟩, by rintro i_ L_ lab_ w_ lab2_ w2_ v_ hne_ hd_ hk_ hp_ ⟨oa180, c181, hv_, s182, _⟩; exact ⟨oa180, c181, hv_, (s182.keep hp_), trivial⟩, by rintro i_ L_ lab_ w_ lab2_ w2_ v_ hne_ hd_ hk_ hp_ ⟨hv_, _⟩; exact ⟨hv_, trivial⟩, by rintro i_ L_ lab_ w_ lab2_ w2_ v_ hne_ hd_ hk_ hp_ ⟨hv_, _⟩; exact ⟨hv_, trivial⟩, by rintro i_ L_ lab_ w_ lab2_ w2_ v_ hne_ hd_ hk_ hp_ ⟨hv_, _⟩; exact ⟨hv_, trivial⟩, by rintro i_ L_ lab_ w_ lab2_ w2_ v_ hne_ hd_ hk_ hp_ ⟨hv_, _⟩; exact ⟨hv_, trivial⟩, by rintro i_ L_ lab_ w_ lab2_ w2_ v_ hne_ hd_ hk_ hp_ ⟨hv_, _⟩; exact ⟨hv_, trivial⟩, by rintro i_ L_ lab_ w_ lab2_ w2_ v_ hne_ hd_ hk_ hp_ ⟨hv_, _⟩; exact ⟨hv_, trivial⟩, by rintro i_ L_ lab_ w_ lab2_ w2_ v_ hne_ hd_ hk_ hp_ ⟨hv_, _⟩; exact ⟨hv_, trivial⟩, by rintro i_ L_ lab_ w_ lab2_ w2_ v_ hne_ hd_ hk_ hp_ ⟨hv_, _⟩; exact ⟨hv_, trivial⟩, by rintro i_ L_ lab_ w_ lab2_ w2_ v_ hne_ hd_ hk_ hp_ ⟨hv_, _⟩; exact ⟨hv_, trivial⟩, by rintro i_ L_ lab_ w_ lab2_ w2_ v_ hne_ hd_ hk_ hp_ ⟨p216, oa221, c222, oa224, c225, hv_, ha219, s223, s226, _⟩; exact ⟨p216, oa221, c222, oa224, c225, hv_, (ha219.keep hp_), (s223.keep hp_), (s226.keep hp_), trivial⟩, by rintro i_ L_ lab_ w_ lab2_ w2_ v_ hne_ hd_ hk_ hp_ ⟨p227, oa229, c230, oa232, c233, hv_, ha228, s231, s234, _⟩; exact ⟨p227, oa229, c230, oa232, c233, hv_, (ha228.keep hp_), (s231.keep hp_), (s234.keep hp_), trivial⟩, by rintro i_ L_ lab_ w_ lab2_ w2_ v_ hne_ hd_ hk_ hp_ ⟨oa242, c243, hv_, s244, _⟩; exact ⟨oa242, c243, hv_, (s244.keep hp_), trivial⟩, by rintro i_ L_ lab_ w_ lab2_ w2_ v_ hne_ hd_ hk_ hp_ ⟨hv_, _⟩; exact ⟨hv_, trivial⟩, by rintro i_ L_ lab_ w_ lab2_ w2_ v_ hne_ hd_ hk_ hp_ ⟨hv_, _⟩; exact ⟨hv_, trivial⟩, by rintro i_ L_ lab_ w_ lab2_ w2_ v_ hne_ hd_ hk_ hp_ ⟨hv_, _⟩; exact ⟨hv_, trivial⟩, trivial⟩
                · refine (ob_succ (ob_succ (ob_succ (ob_succ (ob_succ (ob_succ (ob_succ (ob_succ (ob_succ (ob_succ (ob_succ (ob_succ (ob_succ (ob_succ (ob_succ (ob_succ (ob_succ (ob_succ (ob_succ (ob_succ (ob_succ (ob_succ (ob_succ (ob_succ (ob_succ (ob_succ (ob_succ (ob_succ (ob_succ (ob_succ (ob_succ (ob_succ (ob_succ (ob_succ (ob_succ (ob_succ (ob_succ (ob_succ (ob_succ (ob_succ (ob_succ (ob_succ ob_nil ?_) ?_) ?_) ?_) ?_) ?_) ?_) ?_) ?_) ?_) ?_) ?_) ?_) ?_) ?_) ?_) ?_) ?_) ?_) ?_) ?_) ?_) ?_) ?_) ?_) ?_) ?_) ?_) ?_) ?_) ?_) ?_) ?_) ?_) ?_) ?_) ?_) ?_) ?_) ?_) ?_) ?_)
                  · intro o_ L_ F_ lab_ w_ ho_ hL_ hw_ hcl_ hb_ hr_ hq_; obtain rfl := Option.some.inj (ho_ : some _ = some o_); obtain ⟨cx, s6, b39, s28, s31, s3, _⟩ := hq_
                    have hl6 := hb_ 6 _ rfl
                    refine LW.fldB 0 kFld_63_0 rfl wn rfl hl6 ?_
                    refine LW.nil ?_; intro a_ ha_
                    exact ⟨rfl, _, _, ha_, ⟨rfl, trivial⟩, Ke.refl, cx, s6, b39, s28, s31, s3, trivial⟩
                  · intro o_ L_ F_ lab_ w_ ho_ hL_ hw_ hcl_ hb_ hr_ hq_; obtain rfl := Option.some.inj (ho_ : some _ = some o_); obtain ⟨cx, s6, b39, s28, s31, s3, _⟩ := hq_
                    obtain ⟨q44, hl19, rfl, _⟩ := hr_ 0 (by decide) (hw_ 0 (by kernel_rfl))
                    replace hl19 : Gk.look F_ 19 = some (.pointer (some ⟨g32, 0, none⟩)) := hl19
                    refine LW.loadB1 b39 kOne_3 rfl wn rfl hl19 ?_
                    refine LW.nil ?_; intro a_ ha_
                    exact ⟨rfl, _, _, ha_, ⟨rfl, trivial⟩, Ke.refl, cx, s6, b39, s28, s31, s3, trivial⟩
                  · exact ob_moveb (v := .slice oa4 a1.length c5) rfl (fun _ h_ => h_ _ _ rfl) rfl (fun _ _ _ => ⟨rfl, trivial⟩) (fun _ _ _ h_ => h_)
                  · exact ob_moveb (v := .int .i64 ((k19 : Nat) : Int)) rfl (fun _ h_ => h_ _ _ rfl) rfl (fun _ _ _ => ⟨rfl, trivial⟩) (fun _ _ _ h_ => h_)
                  · intro o_ L_ F_ lab_ w_ ho_ hL_ hw_ hcl_ hb_ hr_ hq_; obtain rfl := Option.some.inj (ho_ : some _ = some o_); obtain ⟨cx, s6, b39, s28, s31, s3, _⟩ := hq_
                    obtain ⟨q45, hl21, rfl, _⟩ := hr_ 2 (by decide) (hw_ 2 (by kernel_rfl))
                    replace hl21 : Gk.look F_ 21 = some (.slice oa4 a1.length c5) := hl21
                    obtain ⟨q46, hl22, rfl, _⟩ := hr_ 3 (by decide) (hw_ 3 (by kernel_rfl))
                    replace hl22 : Gk.look F_ 22 = some (.int .i64 ((k19 : Nat) : Int)) := hl22
                    refine LW.index (bnd_ret hx_x51) s6 kSl_22 wn rfl hl21 hl22 ?_; intro x_ p47 cs48 hx_ hr49 ha50; cases hx_
                    obtain ⟨oa52, c53, oa55, c56, rfl, s54, s57, _⟩ := hr49
                    refine LW.nil ?_; intro a_ ha_
                    exact ⟨rfl, _, _, ha_, ⟨p47, oa52, c53, oa55, c56, rfl, ha50, s54, s57, trivial⟩, Ke.refl, cx, s6, b39, s28, s31, s3, trivial⟩
                  · intro o_ L_ F_ lab_ w_ ho_ hL_ hw_ hcl_ hb_ hr_ hq_; obtain rfl := Option.some.inj (ho_ : some _ = some o_); obtain ⟨cx, s6, b39, s28, s31, s3, _⟩ := hq_
                    obtain ⟨q66, hl23, p58, oa60, c61, oa63, c64, rfl, ha59, s62, s65, _⟩ := hr_ 4 (by decide) (hw_ 4 (by kernel_rfl))
                    replace hl23 : Gk.look F_ 23 = some (.pointer (some p58)) := hl23
                    refine LW.fldA kFld_63_0 wn rfl hl23 ?_
                    refine LW.nil ?_; intro a_ ha_
                    exact ⟨rfl, _, _, ha_, ⟨p58, oa60, c61, oa63, c64, rfl, ha59, s62, s65, trivial⟩, Ke.refl, cx, s6, b39, s28, s31, s3, trivial⟩
                  · intro o_ L_ F_ lab_ w_ ho_ hL_ hw_ hcl_ hb_ hr_ hq_; obtain rfl := Option.some.inj (ho_ : some _ = some o_); obtain ⟨cx, s6, b39, s28, s31, s3, _⟩ := hq_
                    obtain ⟨q75, hl24, p67, oa69, c70, oa72, c73, rfl, ha68, s71, s74, _⟩ := hr_ 5 (by decide) (hw_ 5 (by kernel_rfl))
                    replace hl24 : Gk.look F_ 24 = some (.pointer (some p67)) := hl24
                    refine LW.loadA1 (ha68.cell 0 rfl) kOne_3 wn rfl hl24 ?_
                    refine LW.nil ?_; intro a_ ha_
                    exact ⟨rfl, _, _, ha_, ⟨rfl, trivial⟩, Ke.refl, cx, s6, b39, s28, s31, s3, trivial⟩
                  · intro o_ L_ F_ lab_ w_ ho_ hL_ hw_ hcl_ hb_ hr_ hq_; obtain rfl := Option.some.inj (ho_ : some _ = some o_); obtain ⟨cx, s6, b39, s28, s31, s3, _⟩ := hq_
                    obtain ⟨q76, hl20, rfl, _⟩ := hr_ 1 (by decide) (hw_ 1 (by kernel_rfl))
                    replace hl20 : Gk.look F_ 20 = some (.int .i64 x21.Peer) := hl20
                    obtain ⟨q77, hl25, rfl, _⟩ := hr_ 6 (by decide) (hw_ 6 (by kernel_rfl))
                    replace hl25 : Gk.look F_ 25 = some (.int .i64 x51.Peer) := hl25
                    refine LW.neq (letm_eq hx_x78) wn rfl hl20 hl25 ?_; intro x_ hx_; cases hx_
                    refine LW.nil ?_; intro a_ ha_
                    exact ⟨rfl, _, _, ha_, ⟨rfl, trivial⟩, Ke.refl, cx, s6, b39, s28, s31, s3, trivial⟩
                  · intro o_ L_ F_ lab_ w_ ho_ hL_ hw_ hcl_ hb_ hr_ hq_; obtain rfl := Option.some.inj (ho_ : some _ = some o_); obtain ⟨cx, s6, b39, s28, s31, s3, _⟩ := hq_
                    obtain ⟨q79, hl26, rfl, _⟩ := hr_ 7 (by decide) (hw_ 7 (by kernel_rfl))
                    replace hl26 : Gk.look F_ 26 = some (.bool x78) := hl26
                    refine LW.move wn rfl hl26 ?_
                    refine LW.nil ?_; intro a_ ha_
                    exact ⟨rfl, _, _, ha_, ⟨rfl, trivial⟩, Ke.refl, cx, s6, b39, s28, s31, s3, trivial⟩
                  · intro o_ L_ F_ lab_ w_ ho_ hL_ hw_ hcl_ hb_ hr_ hq_; obtain rfl := Option.some.inj (ho_ : some _ = some o_); obtain ⟨cx, s6, b39, s28, s31, s3, _⟩ := hq_
                    have hl6 := hb_ 6 _ rfl
                    obtain ⟨q92, hl27, rfl, _⟩ := hr_ 8 (by decide) (hw_ 8 (by kernel_rfl))
                    replace hl27 : Gk.look F_ 27 = some (.bool x78) := hl27
                    refine LW.fldB 3 kFld_63_3 rfl (ws 27 rfl (bk hl27 hb80)) rfl hl6 ?_
                    refine LW.nil ?_; intro a_ ha_
                    exact ⟨rfl, _, _, ha_, ⟨rfl, trivial⟩, Ke.refl, cx, s6, b39, s28, s31, s3, trivial⟩
                  · intro o_ L_ F_ lab_ w_ ho_ hL_ hw_ hcl_ hb_ hr_ hq_; obtain rfl := Option.some.inj (ho_ : some _ = some o_); obtain ⟨cx, s6, b39, s28, s31, s3, _⟩ := hq_
                    obtain ⟨q93, hl28, rfl, _⟩ := hr_ 9 (by decide) (hw_ 9 (by kernel_rfl))
                    replace hl28 : Gk.look F_ 28 = some (.pointer (some ⟨g32, 3, none⟩)) := hl28
                    obtain ⟨q94, hl27, rfl, _⟩ := hr_ 8 (by decide) (hw_ 8 (by kernel_rfl))
                    replace hl27 : Gk.look F_ 27 = some (.bool x78) := hl27
                    refine LW.loadB1 b39 kOne_3 rfl (ws 27 rfl (bk hl27 hb80)) rfl hl28 ?_
                    refine LW.nil ?_; intro a_ ha_
                    exact ⟨rfl, _, _, ha_, ⟨rfl, trivial⟩, Ke.refl, cx, s6, b39, s28, s31, s3, trivial⟩
                  · intro o_ L_ F_ lab_ w_ ho_ hL_ hw_ hcl_ hb_ hr_ hq_; obtain rfl := Option.some.inj (ho_ : some _ = some o_); obtain ⟨cx, s6, b39, s28, s31, s3, _⟩ := hq_
                    have hl1 := hb_ 1 _ rfl
                    obtain ⟨q95, hl27, rfl, _⟩ := hr_ 8 (by decide) (hw_ 8 (by kernel_rfl))
                    replace hl27 : Gk.look F_ 27 = some (.bool x78) := hl27
                    refine LW.move (ws 27 rfl (bk hl27 hb80)) rfl hl1 ?_
                    refine LW.nil ?_; intro a_ ha_
                    exact ⟨rfl, _, _, ha_, ⟨rfl, trivial⟩, Ke.refl, cx, s6, b39, s28, s31, s3, trivial⟩
                  · intro o_ L_ F_ lab_ w_ ho_ hL_ hw_ hcl_ hb_ hr_ hq_; obtain rfl := Option.some.inj (ho_ : some _ = some o_); obtain ⟨cx, s6, b39, s28, s31, s3, _⟩ := hq_
                    have hl5 := hb_ 5 _ rfl
                    obtain ⟨q96, hl27, rfl, _⟩ := hr_ 8 (by decide) (hw_ 8 (by kernel_rfl))
                    replace hl27 : Gk.look F_ 27 = some (.bool x78) := hl27
                    refine LW.move (ws 27 rfl (bk hl27 hb80)) rfl hl5 ?_
                    refine LW.nil ?_; intro a_ ha_
                    exact ⟨rfl, _, _, ha_, ⟨rfl, trivial⟩, Ke.refl, cx, s6, b39, s28, s31, s3, trivial⟩
                  · intro o_ L_ F_ lab_ w_ ho_ hL_ hw_ hcl_ hb_ hr_ hq_; obtain rfl := Option.some.inj (ho_ : some _ = some o_); obtain ⟨cx, s6, b39, s28, s31, s3, _⟩ := hq_
                    obtain ⟨q97, hl30, rfl, _⟩ := hr_ 11 (by decide) (hw_ 11 (by kernel_rfl))
                    replace hl30 : Gk.look F_ 30 = some (.slice oa4 a1.length c5) := hl30
                    obtain ⟨q98, hl31, rfl, _⟩ := hr_ 12 (by decide) (hw_ 12 (by kernel_rfl))
                    replace hl31 : Gk.look F_ 31 = some (.int .i64 ((k19 : Nat) : Int)) := hl31
                    obtain ⟨q99, hl27, rfl, _⟩ := hr_ 8 (by decide) (hw_ 8 (by kernel_rfl))
                    replace hl27 : Gk.look F_ 27 = some (.bool x78) := hl27
                    refine LW.index (bnd_ret hx_x104) s6 kSl_22 (ws 27 rfl (bk hl27 hb80)) rfl hl30 hl31 ?_; intro x_ p100 cs101 hx_ hr102 ha103; cases hx_
                    obtain ⟨oa105, c106, oa108, c109, rfl, s107, s110, _⟩ := hr102
                    refine LW.nil ?_; intro a_ ha_
                    exact ⟨rfl, _, _, ha_, ⟨p100, oa105, c106, oa108, c109, rfl, ha103, s107, s110, trivial⟩, Ke.refl, cx, s6, b39, s28, s31, s3, trivial⟩
                  · intro o_ L_ F_ lab_ w_ ho_ hL_ hw_ hcl_ hb_ hr_ hq_; obtain rfl := Option.some.inj (ho_ : some _ = some o_); obtain ⟨cx, s6, b39, s28, s31, s3, _⟩ := hq_
                    obtain ⟨q119, hl32, p111, oa113, c114, oa116, c117, rfl, ha112, s115, s118, _⟩ := hr_ 13 (by decide) (hw_ 13 (by kernel_rfl))
                    replace hl32 : Gk.look F_ 32 = some (.pointer (some p111)) := hl32
                    obtain ⟨q120, hl27, rfl, _⟩ := hr_ 8 (by decide) (hw_ 8 (by kernel_rfl))
                    replace hl27 : Gk.look F_ 27 = some (.bool x78) := hl27
                    refine LW.fldA kFld_63_3 (ws 27 rfl (bk hl27 hb80)) rfl hl32 ?_
                    refine LW.nil ?_; intro a_ ha_
                    exact ⟨rfl, _, _, ha_, ⟨p111, oa113, c114, oa116, c117, rfl, ha112, s115, s118, trivial⟩, Ke.refl, cx, s6, b39, s28, s31, s3, trivial⟩
                  · intro o_ L_ F_ lab_ w_ ho_ hL_ hw_ hcl_ hb_ hr_ hq_; obtain rfl := Option.some.inj (ho_ : some _ = some o_); obtain ⟨cx, s6, b39, s28, s31, s3, _⟩ := hq_
                    obtain ⟨q129, hl33, p121, oa123, c124, oa126, c127, rfl, ha122, s125, s128, _⟩ := hr_ 14 (by decide) (hw_ 14 (by kernel_rfl))
                    replace hl33 : Gk.look F_ 33 = some (.pointer (some (p121.add 3))) := hl33
                    obtain ⟨q130, hl27, rfl, _⟩ := hr_ 8 (by decide) (hw_ 8 (by kernel_rfl))
                    replace hl27 : Gk.look F_ 27 = some (.bool x78) := hl27
                    refine LW.loadA1 (ha122.cell 3 rfl) kOne_3 (ws 27 rfl (bk hl27 hb80)) rfl hl33 ?_
                    refine LW.nil ?_; intro a_ ha_
                    exact ⟨rfl, _, _, ha_, ⟨rfl, trivial⟩, Ke.refl, cx, s6, b39, s28, s31, s3, trivial⟩
                  · intro o_ L_ F_ lab_ w_ ho_ hL_ hw_ hcl_ hb_ hr_ hq_; obtain rfl := Option.some.inj (ho_ : some _ = some o_); obtain ⟨cx, s6, b39, s28, s31, s3, _⟩ := hq_
                    obtain ⟨q131, hl29, rfl, _⟩ := hr_ 10 (by decide) (hw_ 10 (by kernel_rfl))
                    replace hl29 : Gk.look F_ 29 = some (.int .i64 x21.Until) := hl29
                    obtain ⟨q132, hl34, rfl, _⟩ := hr_ 15 (by decide) (hw_ 15 (by kernel_rfl))
                    replace hl34 : Gk.look F_ 34 = some (.int .i64 x104.Until) := hl34
                    obtain ⟨q133, hl27, rfl, _⟩ := hr_ 8 (by decide) (hw_ 8 (by kernel_rfl))
                    replace hl27 : Gk.look F_ 27 = some (.bool x78) := hl27
                    refine LW.neq (letm_eq hx_x134) (ws 27 rfl (bk hl27 hb80)) rfl hl29 hl34 ?_; intro x_ hx_; cases hx_
                    refine LW.nil ?_; intro a_ ha_
                    exact ⟨rfl, _, _, ha_, ⟨rfl, trivial⟩, Ke.refl, cx, s6, b39, s28, s31, s3, trivial⟩
                  · intro o_ L_ F_ lab_ w_ ho_ hL_ hw_ hcl_ hb_ hr_ hq_; obtain rfl := Option.some.inj (ho_ : some _ = some o_); obtain ⟨cx, s6, b39, s28, s31, s3, _⟩ := hq_
                    obtain ⟨q135, hl27, rfl, _⟩ := hr_ 8 (by decide) (hw_ 8 (by kernel_rfl))
                    replace hl27 : Gk.look F_ 27 = some (.bool x78) := hl27
                    obtain ⟨q136, hl35, rfl, _⟩ := hr_ 16 (by decide) (hw_ 16 (by kernel_rfl))
                    replace hl35 : Gk.look F_ 35 = some (.bool x134) := hl35
                    refine LW.pick_f wn rfl (bk hl27 hb80) hl35 ?_
                    refine LW.nil ?_; intro a_ ha_
                    exact ⟨rfl, _, _, ha_, ⟨rfl, trivial⟩, Ke.refl, cx, s6, b39, s28, s31, s3, trivial⟩
                  · intro o_ L_ F_ lab_ w_ ho_ hL_ hw_ hcl_ hb_ hr_ hq_; obtain rfl := Option.some.inj (ho_ : some _ = some o_); obtain ⟨cx, s6, b39, s28, s31, s3, _⟩ := hq_
                    obtain ⟨q137, hl36, rfl, _⟩ := hr_ 17 (by decide) (hw_ 17 (by kernel_rfl))
                    replace hl36 : Gk.look F_ 36 = some (.bool x134) := hl36
                    refine LW.move wn rfl hl36 ?_
                    refine LW.nil ?_; intro a_ ha_
                    exact ⟨rfl, _, _, ha_, ⟨rfl, trivial⟩, Ke.refl, cx, s6, b39, s28, s31, s3, trivial⟩
                  · intro o_ L_ F_ lab_ w_ ho_ hL_ hw_ hcl_ hb_ hr_ hq_; obtain rfl := Option.some.inj (ho_ : some _ = some o_); obtain ⟨cx, s6, b39, s28, s31, s3, _⟩ := hq_
                    have hl6 := hb_ 6 _ rfl
                    obtain ⟨q147, hl37, rfl, _⟩ := hr_ 18 (by decide) (hw_ 18 (by kernel_rfl))
                    replace hl37 : Gk.look F_ 37 = some (.bool x134) := hl37
                    refine LW.fldB 1 kFld_63_1 rfl (ws 37 rfl (bk hl37 hb138)) rfl hl6 ?_
                    refine LW.nil ?_; intro a_ ha_
                    exact ⟨rfl, _, _, ha_, ⟨rfl, trivial⟩, Ke.refl, cx, s6, b39, s28, s31, s3, trivial⟩
                  · intro o_ L_ F_ lab_ w_ ho_ hL_ hw_ hcl_ hb_ hr_ hq_; obtain rfl := Option.some.inj (ho_ : some _ = some o_); obtain ⟨cx, s6, b39, s28, s31, s3, _⟩ := hq_
                    obtain ⟨q148, hl38, rfl, _⟩ := hr_ 19 (by decide) (hw_ 19 (by kernel_rfl))
                    replace hl38 : Gk.look F_ 38 = some (.pointer (some ⟨g32, 1, none⟩)) := hl38
                    obtain ⟨q149, hl37, rfl, _⟩ := hr_ 18 (by decide) (hw_ 18 (by kernel_rfl))
                    replace hl37 : Gk.look F_ 37 = some (.bool x134) := hl37
                    refine LW.loadB1 b39 kOne_24 rfl (ws 37 rfl (bk hl37 hb138)) rfl hl38 ?_
                    refine LW.nil ?_; intro a_ ha_
                    exact ⟨rfl, _, _, ha_, ⟨rfl, trivial⟩, Ke.refl, cx, s6, b39, s28, s31, s3, trivial⟩
                  · intro o_ L_ F_ lab_ w_ ho_ hL_ hw_ hcl_ hb_ hr_ hq_; obtain rfl := Option.some.inj (ho_ : some _ = some o_); obtain ⟨cx, s6, b39, s28, s31, s3, _⟩ := hq_
                    obtain ⟨q150, hl39, rfl, _⟩ := hr_ 20 (by decide) (hw_ 20 (by kernel_rfl))
                    replace hl39 : Gk.look F_ 39 = some (.slice oa26 x21.Key.length c27) := hl39
                    obtain ⟨q151, hl37, rfl, _⟩ := hr_ 18 (by decide) (hw_ 18 (by kernel_rfl))
                    replace hl37 : Gk.look F_ 37 = some (.bool x134) := hl37
                    refine LW.b2s (xs := x21.Key) s28 kUnd_24 kUnd_5 kUnd_9 (ws 37 rfl (bk hl37 hb138)) rfl hl39 ?_
                    refine LW.nil ?_; intro a_ ha_
                    exact ⟨rfl, _, _, ha_, ⟨rfl, trivial⟩, Ke.refl, cx, s6, b39, s28, s31, s3, trivial⟩
                  · intro o_ L_ F_ lab_ w_ ho_ hL_ hw_ hcl_ hb_ hr_ hq_; obtain rfl := Option.some.inj (ho_ : some _ = some o_); obtain ⟨cx, s6, b39, s28, s31, s3, _⟩ := hq_
                    have hl1 := hb_ 1 _ rfl
                    obtain ⟨q152, hl37, rfl, _⟩ := hr_ 18 (by decide) (hw_ 18 (by kernel_rfl))
                    replace hl37 : Gk.look F_ 37 = some (.bool x134) := hl37
                    refine LW.move (ws 37 rfl (bk hl37 hb138)) rfl hl1 ?_
                    refine LW.nil ?_; intro a_ ha_
                    exact ⟨rfl, _, _, ha_, ⟨rfl, trivial⟩, Ke.refl, cx, s6, b39, s28, s31, s3, trivial⟩
                  · intro o_ L_ F_ lab_ w_ ho_ hL_ hw_ hcl_ hb_ hr_ hq_; obtain rfl := Option.some.inj (ho_ : some _ = some o_); obtain ⟨cx, s6, b39, s28, s31, s3, _⟩ := hq_
                    have hl5 := hb_ 5 _ rfl
                    obtain ⟨q153, hl37, rfl, _⟩ := hr_ 18 (by decide) (hw_ 18 (by kernel_rfl))
                    replace hl37 : Gk.look F_ 37 = some (.bool x134) := hl37
                    refine LW.move (ws 37 rfl (bk hl37 hb138)) rfl hl5 ?_
                    refine LW.nil ?_; intro a_ ha_
                    exact ⟨rfl, _, _, ha_, ⟨rfl, trivial⟩, Ke.refl, cx, s6, b39, s28, s31, s3, trivial⟩
                  · intro o_ L_ F_ lab_ w_ ho_ hL_ hw_ hcl_ hb_ hr_ hq_; obtain rfl := Option.some.inj (ho_ : some _ = some o_); obtain ⟨cx, s6, b39, s28, s31, s3, _⟩ := hq_
                    obtain ⟨q154, hl41, rfl, _⟩ := hr_ 22 (by decide) (hw_ 22 (by kernel_rfl))
                    replace hl41 : Gk.look F_ 41 = some (.slice oa4 a1.length c5) := hl41
                    obtain ⟨q155, hl42, rfl, _⟩ := hr_ 23 (by decide) (hw_ 23 (by kernel_rfl))
                    replace hl42 : Gk.look F_ 42 = some (.int .i64 ((k19 : Nat) : Int)) := hl42
                    obtain ⟨q156, hl37, rfl, _⟩ := hr_ 18 (by decide) (hw_ 18 (by kernel_rfl))
                    replace hl37 : Gk.look F_ 37 = some (.bool x134) := hl37
                    refine LW.index (bnd_ret hx_x161) s6 kSl_22 (ws 37 rfl (bk hl37 hb138)) rfl hl41 hl42 ?_; intro x_ p157 cs158 hx_ hr159 ha160; cases hx_
                    obtain ⟨oa162, c163, oa165, c166, rfl, s164, s167, _⟩ := hr159
                    refine LW.nil ?_; intro a_ ha_
                    exact ⟨rfl, _, _, ha_, ⟨p157, oa162, c163, oa165, c166, rfl, ha160, s164, s167, trivial⟩, Ke.refl, cx, s6, b39, s28, s31, s3, trivial⟩
                  · intro o_ L_ F_ lab_ w_ ho_ hL_ hw_ hcl_ hb_ hr_ hq_; obtain rfl := Option.some.inj (ho_ : some _ = some o_); obtain ⟨cx, s6, b39, s28, s31, s3, _⟩ := hq_
                    obtain ⟨q176, hl43, p168, oa170, c171, oa173, c174, rfl, ha169, s172, s175, _⟩ := hr_ 24 (by decide) (hw_ 24 (by kernel_rfl))
                    replace hl43 : Gk.look F_ 43 = some (.pointer (some p168)) := hl43
                    obtain ⟨q177, hl37, rfl, _⟩ := hr_ 18 (by decide) (hw_ 18 (by kernel_rfl))
                    replace hl37 : Gk.look F_ 37 = some (.bool x134) := hl37
                    refine LW.fldA kFld_63_1 (ws 37 rfl (bk hl37 hb138)) rfl hl43 ?_
                    refine LW.nil ?_; intro a_ ha_
                    exact ⟨rfl, _, _, ha_, ⟨p168, oa170, c171, oa173, c174, rfl, ha169, s172, s175, trivial⟩, Ke.refl, cx, s6, b39, s28, s31, s3, trivial⟩
                  · intro o_ L_ F_ lab_ w_ ho_ hL_ hw_ hcl_ hb_ hr_ hq_; obtain rfl := Option.some.inj (ho_ : some _ = some o_); obtain ⟨cx, s6, b39, s28, s31, s3, _⟩ := hq_
                    obtain ⟨q186, hl44, p178, oa180, c181, oa183, c184, rfl, ha179, s182, s185, _⟩ := hr_ 25 (by decide) (hw_ 25 (by kernel_rfl))
                    replace hl44 : Gk.look F_ 44 = some (.pointer (some (p178.add 1))) := hl44
                    obtain ⟨q187, hl37, rfl, _⟩ := hr_ 18 (by decide) (hw_ 18 (by kernel_rfl))
                    replace hl37 : Gk.look F_ 37 = some (.bool x134) := hl37
                    refine LW.loadA1 (ha179.cell 1 rfl) kOne_24 (ws 37 rfl (bk hl37 hb138)) rfl hl44 ?_
                    refine LW.nil ?_; intro a_ ha_
                    exact ⟨rfl, _, _, ha_, ⟨oa180, c181, rfl, s182, trivial⟩, Ke.refl, cx, s6, b39, s28, s31, s3, trivial⟩
                  · intro o_ L_ F_ lab_ w_ ho_ hL_ hw_ hcl_ hb_ hr_ hq_; obtain rfl := Option.some.inj (ho_ : some _ = some o_); obtain ⟨cx, s6, b39, s28, s31, s3, _⟩ := hq_
                    obtain ⟨q191, hl45, oa188, c189, rfl, s190, _⟩ := hr_ 26 (by decide) (hw_ 26 (by kernel_rfl))
                    replace hl45 : Gk.look F_ 45 = some (.slice oa188 x161.Key.length c189) := hl45
                    obtain ⟨q192, hl37, rfl, _⟩ := hr_ 18 (by decide) (hw_ 18 (by kernel_rfl))
                    replace hl37 : Gk.look F_ 37 = some (.bool x134) := hl37
                    refine LW.b2s (xs := x161.Key) s190 kUnd_24 kUnd_5 kUnd_9 (ws 37 rfl (bk hl37 hb138)) rfl hl45 ?_
                    refine LW.nil ?_; intro a_ ha_
                    exact ⟨rfl, _, _, ha_, ⟨rfl, trivial⟩, Ke.refl, cx, s6, b39, s28, s31, s3, trivial⟩
                  · intro o_ L_ F_ lab_ w_ ho_ hL_ hw_ hcl_ hb_ hr_ hq_; obtain rfl := Option.some.inj (ho_ : some _ = some o_); obtain ⟨cx, s6, b39, s28, s31, s3, _⟩ := hq_
                    obtain ⟨q193, hl40, rfl, _⟩ := hr_ 21 (by decide) (hw_ 21 (by kernel_rfl))
                    replace hl40 : Gk.look F_ 40 = some (strV x21.Key) := hl40
                    obtain ⟨q194, hl46, rfl, _⟩ := hr_ 27 (by decide) (hw_ 27 (by kernel_rfl))
                    replace hl46 : Gk.look F_ 46 = some (strV x161.Key) := hl46
                    obtain ⟨q195, hl37, rfl, _⟩ := hr_ 18 (by decide) (hw_ 18 (by kernel_rfl))
                    replace hl37 : Gk.look F_ 37 = some (.bool x134) := hl37
                    refine LW.nes (letm_eq hx_x196) (ws 37 rfl (bk hl37 hb138)) rfl hl40 hl46 ?_; intro x_ hx_; cases hx_
                    refine LW.nil ?_; intro a_ ha_
                    exact ⟨rfl, _, _, ha_, ⟨rfl, trivial⟩, Ke.refl, cx, s6, b39, s28, s31, s3, trivial⟩
                  · intro o_ L_ F_ lab_ w_ ho_ hL_ hw_ hcl_ hb_ hr_ hq_; obtain rfl := Option.some.inj (ho_ : some _ = some o_); obtain ⟨cx, s6, b39, s28, s31, s3, _⟩ := hq_
                    obtain ⟨q197, hl37, rfl, _⟩ := hr_ 18 (by decide) (hw_ 18 (by kernel_rfl))
                    replace hl37 : Gk.look F_ 37 = some (.bool x134) := hl37
                    obtain ⟨q198, hl47, rfl, _⟩ := hr_ 28 (by decide) (hw_ 28 (by kernel_rfl))
                    replace hl47 : Gk.look F_ 47 = some (.bool x196) := hl47
                    refine LW.pick_f wn rfl (bk hl37 hb138) hl47 ?_
                    refine LW.nil ?_; intro a_ ha_
                    exact ⟨rfl, _, _, ha_, ⟨rfl, trivial⟩, Ke.refl, cx, s6, b39, s28, s31, s3, trivial⟩
                  · intro o_ L_ F_ lab_ w_ ho_ hL_ hw_ hcl_ hb_ hr_ hq_; obtain rfl := Option.some.inj (ho_ : some _ = some o_); obtain ⟨cx, s6, b39, s28, s31, s3, _⟩ := hq_
                    obtain ⟨q199, hl48, rfl, _⟩ := hr_ 29 (by decide) (hw_ 29 (by kernel_rfl))
                    replace hl48 : Gk.look F_ 48 = some (.bool x196) := hl48
                    refine LW.move wn rfl hl48 ?_
                    refine LW.nil ?_; intro a_ ha_
                    exact ⟨rfl, _, _, ha_, ⟨rfl, trivial⟩, Ke.refl, cx, s6, b39, s28, s31, s3, trivial⟩
                  · intro o_ L_ F_ lab_ w_ ho_ hL_ hw_ hcl_ hb_ hr_ hq_; obtain rfl := Option.some.inj (ho_ : some _ = some o_); obtain ⟨cx, s6, b39, s28, s31, s3, _⟩ := hq_
                    have hl6 := hb_ 6 _ rfl
                    obtain ⟨q206, hl49, rfl, _⟩ := hr_ 30 (by decide) (hw_ 30 (by kernel_rfl))
                    replace hl49 : Gk.look F_ 49 = some (.bool x196) := hl49
                    refine LW.fldB 2 kFld_63_2 rfl (ws 49 rfl (bk hl49 hb200)) rfl hl6 ?_
                    refine LW.nil ?_; intro a_ ha_
                    exact ⟨rfl, _, _, ha_, ⟨rfl, trivial⟩, Ke.refl, cx, s6, b39, s28, s31, s3, trivial⟩
                  · intro o_ L_ F_ lab_ w_ ho_ hL_ hw_ hcl_ hb_ hr_ hq_; obtain rfl := Option.some.inj (ho_ : some _ = some o_); obtain ⟨cx, s6, b39, s28, s31, s3, _⟩ := hq_
                    obtain ⟨q207, hl50, rfl, _⟩ := hr_ 31 (by decide) (hw_ 31 (by kernel_rfl))
                    replace hl50 : Gk.look F_ 50 = some (.pointer (some ⟨g32, 2, none⟩)) := hl50
                    obtain ⟨q208, hl49, rfl, _⟩ := hr_ 30 (by decide) (hw_ 30 (by kernel_rfl))
                    replace hl49 : Gk.look F_ 49 = some (.bool x196) := hl49
                    refine LW.loadB1 b39 kOne_24 rfl (ws 49 rfl (bk hl49 hb200)) rfl hl50 ?_
                    refine LW.nil ?_; intro a_ ha_
                    exact ⟨rfl, _, _, ha_, ⟨rfl, trivial⟩, Ke.refl, cx, s6, b39, s28, s31, s3, trivial⟩
                  · intro o_ L_ F_ lab_ w_ ho_ hL_ hw_ hcl_ hb_ hr_ hq_; obtain rfl := Option.some.inj (ho_ : some _ = some o_); obtain ⟨cx, s6, b39, s28, s31, s3, _⟩ := hq_
                    obtain ⟨q209, hl51, rfl, _⟩ := hr_ 32 (by decide) (hw_ 32 (by kernel_rfl))
                    replace hl51 : Gk.look F_ 51 = some (.slice oa29 x21.Data.length c30) := hl51
                    obtain ⟨q210, hl49, rfl, _⟩ := hr_ 30 (by decide) (hw_ 30 (by kernel_rfl))
                    replace hl49 : Gk.look F_ 49 = some (.bool x196) := hl49
                    refine LW.b2s (xs := x21.Data) s31 kUnd_24 kUnd_5 kUnd_9 (ws 49 rfl (bk hl49 hb200)) rfl hl51 ?_
                    refine LW.nil ?_; intro a_ ha_
                    exact ⟨rfl, _, _, ha_, ⟨rfl, trivial⟩, Ke.refl, cx, s6, b39, s28, s31, s3, trivial⟩
                  · intro o_ L_ F_ lab_ w_ ho_ hL_ hw_ hcl_ hb_ hr_ hq_; obtain rfl := Option.some.inj (ho_ : some _ = some o_); obtain ⟨cx, s6, b39, s28, s31, s3, _⟩ := hq_
                    have hl1 := hb_ 1 _ rfl
                    obtain ⟨q211, hl49, rfl, _⟩ := hr_ 30 (by decide) (hw_ 30 (by kernel_rfl))
                    replace hl49 : Gk.look F_ 49 = some (.bool x196) := hl49
                    refine LW.move (ws 49 rfl (bk hl49 hb200)) rfl hl1 ?_
                    refine LW.nil ?_; intro a_ ha_
                    exact ⟨rfl, _, _, ha_, ⟨rfl, trivial⟩, Ke.refl, cx, s6, b39, s28, s31, s3, trivial⟩
                  · intro o_ L_ F_ lab_ w_ ho_ hL_ hw_ hcl_ hb_ hr_ hq_; obtain rfl := Option.some.inj (ho_ : some _ = some o_); obtain ⟨cx, s6, b39, s28, s31, s3, _⟩ := hq_
                    have hl5 := hb_ 5 _ rfl
                    obtain ⟨q212, hl49, rfl, _⟩ := hr_ 30 (by decide) (hw_ 30 (by kernel_rfl))
                    replace hl49 : Gk.look F_ 49 = some (.bool x196) := hl49
                    refine LW.move (ws 49 rfl (bk hl49 hb200)) rfl hl5 ?_
                    refine LW.nil ?_; intro a_ ha_
                    exact ⟨rfl, _, _, ha_, ⟨rfl, trivial⟩, Ke.refl, cx, s6, b39, s28, s31, s3, trivial⟩
                  · intro o_ L_ F_ lab_ w_ ho_ hL_ hw_ hcl_ hb_ hr_ hq_; obtain rfl := Option.some.inj (ho_ : some _ = some o_); obtain ⟨cx, s6, b39, s28, s31, s3, _⟩ := hq_
                    obtain ⟨q213, hl53, rfl, _⟩ := hr_ 34 (by decide) (hw_ 34 (by kernel_rfl))
                    replace hl53 : Gk.look F_ 53 = some (.slice oa4 a1.length c5) := hl53
                    obtain ⟨q214, hl54, rfl, _⟩ := hr_ 35 (by decide) (hw_ 35 (by kernel_rfl))
                    replace hl54 : Gk.look F_ 54 = some (.int .i64 ((k19 : Nat) : Int)) := hl54
                    obtain ⟨q215, hl49, rfl, _⟩ := hr_ 30 (by decide) (hw_ 30 (by kernel_rfl))
                    replace hl49 : Gk.look F_ 49 = some (.bool x196) := hl49
                    refine LW.index (bnd_ret hx_x220) s6 kSl_22 (ws 49 rfl (bk hl49 hb200)) rfl hl53 hl54 ?_; intro x_ p216 cs217 hx_ hr218 ha219; cases hx_
                    obtain ⟨oa221, c222, oa224, c225, rfl, s223, s226, _⟩ := hr218
                    refine LW.nil ?_; intro a_ ha_
                    exact ⟨rfl, _, _, ha_, ⟨p216, oa221, c222, oa224, c225, rfl, ha219, s223, s226, trivial⟩, Ke.refl, cx, s6, b39, s28, s31, s3, trivial⟩
                  · intro o_ L_ F_ lab_ w_ ho_ hL_ hw_ hcl_ hb_ hr_ hq_; obtain rfl := Option.some.inj (ho_ : some _ = some o_); obtain ⟨cx, s6, b39, s28, s31, s3, _⟩ := hq_
                    obtain ⟨q235, hl55, p227, oa229, c230, oa232, c233, rfl, ha228, s231, s234, _⟩ := hr_ 36 (by decide) (hw_ 36 (by kernel_rfl))
                    replace hl55 : Gk.look F_ 55 = some (.pointer (some p227)) := hl55
                    obtain ⟨q236, hl49, rfl, _⟩ := hr_ 30 (by decide) (hw_ 30 (by kernel_rfl))
                    replace hl49 : Gk.look F_ 49 = some (.bool x196) := hl49
                    refine LW.fldA kFld_63_2 (ws 49 rfl (bk hl49 hb200)) rfl hl55 ?_
                    refine LW.nil ?_; intro a_ ha_
                    exact ⟨rfl, _, _, ha_, ⟨p227, oa229, c230, oa232, c233, rfl, ha228, s231, s234, trivial⟩, Ke.refl, cx, s6, b39, s28, s31, s3, trivial⟩
                  · intro o_ L_ F_ lab_ w_ ho_ hL_ hw_ hcl_ hb_ hr_ hq_; obtain rfl := Option.some.inj (ho_ : some _ = some o_); obtain ⟨cx, s6, b39, s28, s31, s3, _⟩ := hq_
                    obtain ⟨q245, hl56, p237, oa239, c240, oa242, c243, rfl, ha238, s241, s244, _⟩ := hr_ 37 (by decide) (hw_ 37 (by kernel_rfl))
                    replace hl56 : Gk.look F_ 56 = some (.pointer (some (p237.add 2))) := hl56
                    obtain ⟨q246, hl49, rfl, _⟩ := hr_ 30 (by decide) (hw_ 30 (by kernel_rfl))
                    replace hl49 : Gk.look F_ 49 = some (.bool x196) := hl49
                    refine LW.loadA1 (ha238.cell 2 rfl) kOne_24 (ws 49 rfl (bk hl49 hb200)) rfl hl56 ?_
                    refine LW.nil ?_; intro a_ ha_
                    exact ⟨rfl, _, _, ha_, ⟨oa242, c243, rfl, s244, trivial⟩, Ke.refl, cx, s6, b39, s28, s31, s3, trivial⟩
                  · intro o_ L_ F_ lab_ w_ ho_ hL_ hw_ hcl_ hb_ hr_ hq_; obtain rfl := Option.some.inj (ho_ : some _ = some o_); obtain ⟨cx, s6, b39, s28, s31, s3, _⟩ := hq_
                    obtain ⟨q250, hl57, oa247, c248, rfl, s249, _⟩ := hr_ 38 (by decide) (hw_ 38 (by kernel_rfl))
                    replace hl57 : Gk.look F_ 57 = some (.slice oa247 x220.Data.length c248) := hl57
                    obtain ⟨q251, hl49, rfl, _⟩ := hr_ 30 (by decide) (hw_ 30 (by kernel_rfl))
                    replace hl49 : Gk.look F_ 49 = some (.bool x196) := hl49
                    refine LW.b2s (xs := x220.Data) s249 kUnd_24 kUnd_5 kUnd_9 (ws 49 rfl (bk hl49 hb200)) rfl hl57 ?_
                    refine LW.nil ?_; intro a_ ha_
                    exact ⟨rfl, _, _, ha_, ⟨rfl, trivial⟩, Ke.refl, cx, s6, b39, s28, s31, s3, trivial⟩
                  · intro o_ L_ F_ lab_ w_ ho_ hL_ hw_ hcl_ hb_ hr_ hq_; obtain rfl := Option.some.inj (ho_ : some _ = some o_); obtain ⟨cx, s6, b39, s28, s31, s3, _⟩ := hq_
                    obtain ⟨q252, hl52, rfl, _⟩ := hr_ 33 (by decide) (hw_ 33 (by kernel_rfl))
                    replace hl52 : Gk.look F_ 52 = some (strV x21.Data) := hl52
                    obtain ⟨q253, hl58, rfl, _⟩ := hr_ 39 (by decide) (hw_ 39 (by kernel_rfl))
                    replace hl58 : Gk.look F_ 58 = some (strV x220.Data) := hl58
                    obtain ⟨q254, hl49, rfl, _⟩ := hr_ 30 (by decide) (hw_ 30 (by kernel_rfl))
                    replace hl49 : Gk.look F_ 49 = some (.bool x196) := hl49
                    refine LW.nes (letm_eq hx_x255) (ws 49 rfl (bk hl49 hb200)) rfl hl52 hl58 ?_; intro x_ hx_; cases hx_
                    refine LW.nil ?_; intro a_ ha_
                    exact ⟨rfl, _, _, ha_, ⟨rfl, trivial⟩, Ke.refl, cx, s6, b39, s28, s31, s3, trivial⟩
                  · intro o_ L_ F_ lab_ w_ ho_ hL_ hw_ hcl_ hb_ hr_ hq_; obtain rfl := Option.some.inj (ho_ : some _ = some o_); obtain ⟨cx, s6, b39, s28, s31, s3, _⟩ := hq_
                    obtain ⟨q256, hl49, rfl, _⟩ := hr_ 30 (by decide) (hw_ 30 (by kernel_rfl))
                    replace hl49 : Gk.look F_ 49 = some (.bool x196) := hl49
                    obtain ⟨q257, hl59, rfl, _⟩ := hr_ 40 (by decide) (hw_ 40 (by kernel_rfl))
                    replace hl59 : Gk.look F_ 59 = some (.bool x255) := hl59
                    refine LW.pick_f wn rfl (bk hl49 hb200) hl59 ?_
                    refine LW.nil ?_; intro a_ ha_
                    exact ⟨rfl, _, _, ha_, ⟨rfl, trivial⟩, Ke.refl, cx, s6, b39, s28, s31, s3, trivial⟩
                · intro F_ lab_ w_ hb_ hr_ hq_; obtain ⟨cx, s6, b39, s28, s31, s3, _⟩ := hq_
                  obtain ⟨q260, hl60, rfl, _⟩ := hr_ 41 (by decide)
                  refine LW.sub (G := [(1, .slice oa4 a1.length c5), (5, .int .i64 ((k19 : Nat) : Int)), (6, .pointer (some ⟨g32, 0, none⟩)), (12, .slice oa1 a0.length c2), (13, .int .i64 (a0.length : Int)), (14, .int .i64 ((k19 : Nat) : Int)), (60, .bool x255)]) ⟨hb_ 1 _ rfl, hb_ 5 _ rfl, hb_ 6 _ rfl, hb_ 12 _ rfl, hb_ 13 _ rfl, hb_ 14 _ rfl, hl60, trivial⟩ ?_
                  simp only [List.drop_succ_cons, List.drop_nil, List.drop_zero]
                  refine LW.nil ?_
                  obtain rfl := Option.some.inj hm
                  refine EW.sub (G := [(1, .slice oa4 a1.length c5), (12, .slice oa1 a0.length c2), (13, .int .i64 (a0.length : Int)), (14, .int .i64 ((k19 : Nat) : Int)), (60, .bool x255)]) ⟨rfl, rfl, rfl, rfl, rfl, trivial⟩ ?_
                  exact EW.join_n ⟨_, rfl, cx, s6, s3, trivial⟩
        · rintro _ w42 ⟨lab43, rfl, cx, s6, s3, _⟩
          have hm := hm_; clear hm_
          refine EW.seq_n ?_
          refine CW.cond (b := y40) rfl (fun hb261 => ?_) (fun hb261 => ?_)
          · replace hm := cond_t hm hb261
            refine CW.seq ?_
            refine CW.region ?_
            refine LW.assign wn rfl rfl ?_
            refine LW.nil ?_
            refine EW.seq_n ?_
            refine CW.ret ?_
            refine EW.block_r ?_
            refine EW.seq_r ?_
            refine EW.join_r ?_
            refine EW.block_r ?_
            refine EW.join_r ?_
            obtain rfl := Option.some.inj hm; have hm := hs12 _ rfl
            refine EW.seq_r ?_
            obtain rfl := Option.some.inj hm
            exact EW.ret1 rfl rfl ⟨rfl, (cx.ste t), trivial⟩
          · replace hm := cond_f hm hb261
            refine CW.skip ?_
            refine EW.block_n ?_
            refine EW.seq_n ?_
            refine CW.region ?_
            refine LW.add_lit (w64_succ hlt2 s3.le) wn rfl rfl rfl ?_
            refine LW.move wn rfl rfl ?_
            refine LW.nil ?_
            refine EW.sub (G := [(1, .slice oa4 a1.length c5), (12, .slice oa1 a0.length c2), (13, .int .i64 (a0.length : Int)), (14, .int .i64 ((k19 + 1 : Nat) : Int))]) ⟨rfl, rfl, rfl, rfl, trivial⟩ ?_
            exact EW.join_n ⟨_, Nat.lt_succ_self _, _, k19 + 1, rem20, rfl, hd, rfl, cx, s6, s3, hm⟩
    · rintro _ w14 ⟨y9, lab15, hsr_, rfl, cx, _⟩
      have hm := hs13 _ hsr_; clear hsr_
      refine EW.seq_n ?_
      refine CW.seq ?_
      refine CW.region ?_
      refine LW.assign wn rfl rfl ?_
      refine LW.nil ?_
      refine EW.seq_n ?_
      refine CW.ret ?_
      obtain rfl := Option.some.inj hm
      exact EW.ret1 rfl rfl ⟨rfl, (cx.ste t), trivial⟩
end Go.Proofs.Ytaefnnamjphieaa
