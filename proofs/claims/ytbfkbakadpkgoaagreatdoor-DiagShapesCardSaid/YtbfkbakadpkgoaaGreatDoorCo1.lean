/-
  The functions compute their models: what the evaluator gives is the model, by the kernel. No condition.
-/
import Derived.Test.YtbfkbakadpkgoaaGreatDoorCo
namespace Go.Proofs.YtbfkbakadpkgoaaGreatDoor
open Go.Gk Go.RowKit
noncomputable section
set_option maxRecDepth 100000
def cz_cbor_checker_item (mf : cur [.p 69 P_cbor_checker, .d .tree, .d (.int .i64)] (Option (tupR (([.d .bool] : List RK) ++ outs [.p 69 P_cbor_checker, .d .tree, .d (.int .i64)])))) (okf : ∀ a r, app1 [.p 69 P_cbor_checker, .d .tree, .d (.int .i64)] mf a = some r → OKc Tryz.prog 37 [.p 69 P_cbor_checker, .d .tree, .d (.int .i64)] [.d .bool] a (toHL _ r)) : Con Tryz.prog := ⟨37, [.p 69 P_cbor_checker, .d .tree, .d (.int .i64)], [.d .bool], ⟨Tryz.f37, Tryz.func37, by kernel_rfl, by kernel_rfl⟩, mf, okf⟩
def t_cbor_checker_item (mf : cur [.p 69 P_cbor_checker, .d .tree, .d (.int .i64)] (Option (tupR (([.d .bool] : List RK) ++ outs [.p 69 P_cbor_checker, .d .tree, .d (.int .i64)])))) (okf : ∀ a r, app1 [.p 69 P_cbor_checker, .d .tree, .d (.int .i64)] mf a = some r → OKc Tryz.prog 37 [.p 69 P_cbor_checker, .d .tree, .d (.int .i64)] [.d .bool] a (toHL _ r)) : Tab Tryz.prog := ⟨tes, ses, fes, bes, [con_cbor_plain, con_cbor_checker_spend, cz_cbor_checker_item mf okf, con_cbor_ascending], [], fds, [], qes, ges, mes, [], xes⟩
def h_cbor_checker_item : Hint := (.s .n (.s .n (.s (.j ⟨[.d 34 .bool], [0, 2, 4]⟩ false .n (.c (.s .n .n) .n)) (.s (.s .n (.s .n (.c (.j ⟨[.d 6 .bool, .b 0 69 P_cbor_checker], [0]⟩ false .n .n) .n))) (.s (.j ⟨[.d 64 .bool], [0, 2, 4]⟩ false .n (.c (.s .n .n) .n)) (.s (.j ⟨[.d 95 .bool], [0, 2, 4]⟩ false .n (.c (.s .n .n) .n)) (.s (.s .n (.c (.s .n .n) .n)) (.s (.s .n (.b (.l (.a 103 102) ⟨[.b 0 69 P_cbor_checker], [0, 2, 4, 101, 102]⟩ (.s .n (.s (.c .n .n) (.s (.b (.s .n (.s .n (.c (.s .n .n) .n)))) .n)))))) (.j ⟨[.d 6 .bool], [0]⟩ false .n .n)))))))))
theorem ob_cbor_checker_item (mf : cur [.p 69 P_cbor_checker, .d .tree, .d (.int .i64)] (Option (tupR (([.d .bool] : List RK) ++ outs [.p 69 P_cbor_checker, .d .tree, .d (.int .i64)])))) (okf : ∀ a r, app1 [.p 69 P_cbor_checker, .d .tree, .d (.int .i64)] mf a = some r → OKc Tryz.prog 37 [.p 69 P_cbor_checker, .d .tree, .d (.int .i64)] [.d .bool] a (toHL _ r)) : ∀ a r, app1 [.p 69 P_cbor_checker, .d .tree, .d (.int .i64)] (b_cbor_checker_item mf) a = some r → OKc Tryz.prog 37 [.p 69 P_cbor_checker, .d .tree, .d (.int .i64)] [.d .bool] a (toHL _ r) := fun a r h => mkM_ok (T := t_cbor_checker_item mf okf) (N := 122) (own := []) (rng := [102]) (c := (codeOf Tryz.f37)) (h := h_cbor_checker_item) (qs := [.tmp 6]) (ps := [.p 69 P_cbor_checker, .d .tree, .d (.int .i64)]) (rs := [.d .bool]) kMix Tryz.func37 (by kernel_rfl) (by kernel_rfl) (by kernel_rfl) (by kernel_rfl) a r (Eq.trans (by kernel_rfl) h)
theorem on_cbor_checker_item : ∀ (n : Nat) a r, app1 [.p 69 P_cbor_checker, .d .tree, .d (.int .i64)] (n_cbor_checker_item n) a = some r → OKc Tryz.prog 37 [.p 69 P_cbor_checker, .d .tree, .d (.int .i64)] [.d .bool] a (toHL _ r)
 | 0, a, r, h => by cases (show (none : Option _) = some r from h)
 | n + 1, a, r, h => ob_cbor_checker_item (n_cbor_checker_item n) (on_cbor_checker_item n) a r h
def con_cbor_checker_item : Con Tryz.prog := ⟨37, [.p 69 P_cbor_checker, .d .tree, .d (.int .i64)], [.d .bool], ⟨Tryz.f37, Tryz.func37, by kernel_rfl, by kernel_rfl⟩, m_cbor_checker_item, fun a r h => on_cbor_checker_item 40 a r h⟩
def t_cbor_Valid : Tab Tryz.prog := ⟨tes, ses, fes, bes, [con_cbor_checker_item], [], fds, [], qes, ges, mes, [], xes⟩
def h_cbor_Valid : Hint := (.s .n (.s .n (.s .n .n)))
def con_cbor_Valid : Con Tryz.prog := ⟨26, [.d .tree], [.d .bool], ⟨Tryz.f26, Tryz.func26, by kernel_rfl, by kernel_rfl⟩, m_cbor_Valid, fun a r h => mkM_ok (T := t_cbor_Valid) (N := 6) (own := []) (rng := []) (c := (codeOf Tryz.f26)) (h := h_cbor_Valid) (qs := [.tmp 2]) kMix Tryz.func26 (by kernel_rfl) (by kernel_rfl) (by kernel_rfl) (by kernel_rfl) a r (Eq.trans (by kernel_rfl) h)⟩
section
variable {P : Program} {N : Nat} {ops : Array Oper} {F : List (Nat × Value)} {w : World} {rest : List Oper} {K : Kont}
variable {ty : TypeId} {pos : String} {af : Array Edge} {g : Option (Nat × Bool)} {d : Nat} {x y : Operand} {t t' : TypeId}
theorem LW.eqlL {a b : Int} {ik : IntKind} {tv : Bool} (he : (a == b) = tv) (hw : Wn ops F g) (hdN : Nat.blt d N = true) (hx : ev F x = some (.int ik a)) (hy : ev F y = some (.int ik b))
  (h : LW P N ops rest ((d, .bool tv) :: F) w K) : LW P N ops (⟨some d, .binOp .eql t x y t', ty, pos, af, g⟩ :: rest) F w K :=
 LW.eql (kb := some) (r := tv) (by rw [he]; rfl) hw hdN hx hy (fun c hc => by cases hc; exact h)
end
theorem pow10_tab {lab : Lab} {w : World} (h : GL lab w) : Lib.TabIs Tryz.prog w "internal/strconv.uint64pow10" .u64 Lib.pow10Tab := by
 obtain ⟨w0, hf, hg⟩ := h
 obtain ⟨t, p, hm⟩ := hf.2.2.2.1
 obtain ⟨_, _, h2⟩ := hg 4 (by decide)
 unfold Lib.TabIs World.var?
 rw [show Tryz.prog.globalNamed "internal/strconv.uint64pow10" = some 4 by kernel_rfl]
 simp only [Option.bind_some, h2, hm]
theorem digits_flat (u : Nat) : ((Lib.decDigits u).map fun b : UInt8 => [Value.int .u8 (b.toNat : Int)]).flatten = Lib.byteCells (Lib.decDigits u) := by rw [strCells_flat]; rfl
open Go.Sort in
theorem c_AppU {lab : Lab} {w : World} {kp c : Nat} {oa : Option Addr} {xs : List UInt8} (t : Top lab w) (gl : GL lab w) (hkp : kp ≠ 0) (o : Own (rep (.int .u8)) lab w kp 5 oa c xs) (n : UInt64) (hl : xs.length + (Lib.decDigits n.toNat).length ≤ LIM) :
  Calls Tryz.prog 65 [.slice oa xs.length c, .int .u64 (n.toNat : Int), .int .i64 10].toArray w fun e w' => ∃ lab' oa' c', e = .returned (.slice oa' (List.length (α := UInt8) (xs ++ Lib.decDigits n.toNat)) c') ∧ Stp [kp] lab w lab' w' ∧ Own (rep (.int .u8)) lab' w' kp 5 oa' c' (xs ++ Lib.decDigits n.toNat) := by
 have happ : bnd (app xs (Lib.decDigits n.toNat)) some = some (xs ++ Lib.decDigits n.toNat) := by
  unfold app; rw [if_pos hl]; rfl
 have hk0 : Nat.beq kp 0 = false := beq_false hkp
 have hT : TySl Tryz.prog 23 5 1 1 (.int .u8 0) := se23.ok
 have hU : Tryz.prog.underlying 9 = some .string := by kernel_rfl
 have hn64 : n.toNat < 18446744073709551616 := n.toNat_lt
 refine enter Tryz.func65 rfl 36 rfl rfl ?_
 repeat refine CW.seq ?_
 refine CW.region ?_
 refine LW.assign wn rfl rfl ?_
 refine LW.nil ?_
 refine EW.seq_n ?_
 repeat refine CW.seq ?_
 refine CW.region ?_
 refine LW.move wn rfl rfl ?_
 refine LW.eqlL (tv := true) rfl wn rfl rfl rfl ?_
 refine LW.nil ?_
 refine EW.seq_n ?_
 repeat refine CW.seq ?_
 refine CW.cond_t rfl ?_
 repeat refine CW.seq ?_
 refine CW.region ?_
 refine LW.move wn rfl rfl ?_
 by_cases h100 : n.toNat < 100
 ·refine LW.lss_lit (tv := true) (decide_eq_true (by omega)) wn rfl rfl rfl ?_
  refine LW.nil ?_
  refine EW.seq_n ?_
  repeat refine CW.seq ?_
  refine CW.cond_t rfl ?_
  repeat refine CW.seq ?_
  refine CW.region ?_
  refine LW.move wn rfl rfl ?_
  refine LW.move wn rfl rfl ?_
  refine LW.cvt_i64 (k := some) (r := (n.toNat : Int)) (by show some (w64 (n.toNat : Int)) = _; rw [w64_in (by omega)]) (by kernel_rfl) (by show Tryz.prog.underlying _ = _; kernel_rfl) wn rfl rfl ?_
  intro c1 hc1
  cases hc1
  refine LW.call ⟨Tryz.f81, Tryz.func81, by kernel_rfl, by kernel_rfl⟩ (vs := [.int .i64 (n.toNat : Int)]) (Tryz.internal_strconv_small n.toNat h100 w) wn rfl rfl ?_
  rintro e w2 ⟨rfl, rfl⟩
  refine ⟨_, rfl, ?_⟩
  refine LW.appendS (kk := some) (ys := Lib.decDigits n.toNat) happ o t hk0 hT hU rfl rfl wn rfl rfl rfl ?_
  intro zs oa2 c2 lab2 w2 hzs hs ho
  cases hzs
  refine LW.assign wn rfl rfl ?_
  refine LW.nil ?_
  refine EW.seq_n ?_
  refine CW.ret ?_
  repeat refine EW.seq_r ?_
  exact EW.ret1 rfl rfl ⟨lab2, oa2, c2, rfl, hs.stp (.inl (by simp)), ho⟩
 ·refine LW.lss_lit (tv := false) (decide_eq_false (by omega)) wn rfl rfl rfl ?_
  refine LW.nil ?_
  refine EW.seq_n ?_
  repeat refine CW.seq ?_
  refine CW.cond_f rfl ?_
  refine CW.skip ?_
  refine EW.seq_n ?_
  repeat refine CW.seq ?_
  refine CW.region ?_
  have hz : TyZero Tryz.prog 112 (.agg Lib.zeros24) := fun w => by kernel_rfl
  refine LW.val (v := .pointer (some ⟨w.heap.size, 0, none⟩)) (w' := w.alloc (.cells Lib.zeros24 112)) rfl wn rfl rfl (fun a ha => by simp [execOp, Instr.alloc, hz w, newVar, newRow, Value.cells, World.alloc_eq']) ?_
  refine LW.nil ?_
  refine EW.seq_n ?_
  have hu1 : 1 ≤ n.toNat := by omega
  have hnd20 : Lib.nDigits n.toNat ≤ 20 := by have := Lib.numDigits_eq n.toNat hu1 hn64; split at this <;> omega
  repeat refine CW.seq ?_
  refine CW.region ?_
  refine LW.move wn rfl rfl ?_
  refine LW.call ⟨Tryz.f82, Tryz.func82, by kernel_rfl, by kernel_rfl⟩ (vs := [.int .u64 (n.toNat : Int)]) (Tryz.internal_strconv_numDigits n.toNat hu1 hn64 _ (Lib.tabIs_alloc (pow10_tab gl) _)) wn rfl rfl ?_
  rintro e w2 ⟨rfl, rfl⟩
  refine ⟨_, rfl, ?_⟩
  refine LW.assign wn rfl rfl ?_
  refine LW.nil ?_
  refine EW.seq_n ?_
  have hal : Tryz.prog.arrayLen 112 = 24 := by kernel_rfl
  have hsl : ∀ W, (Instr.sliceAt 112 (.pointer (some ⟨w.heap.size, 0, none⟩)) none (some (.int .i64 (Lib.nDigits n.toNat : Int))) none).run Tryz.prog W = .ok (.slice (some ⟨w.heap.size, 0, none⟩) (Lib.nDigits n.toNat) 24) W := fun W => by
   rw [run_sliceAt_array_h W 112 ⟨w.heap.size, 0, none⟩ (by kernel_rfl) .i64 (Lib.nDigits n.toNat : Int) (by omega) (by rw [hal]; omega)]
   rw [hal]; rfl
  repeat refine CW.seq ?_
  refine CW.region ?_
  refine LW.move wn rfl rfl ?_
  refine LW.val (v := .slice (some ⟨w.heap.size, 0, none⟩) (Lib.nDigits n.toNat) 24) (w' := w.alloc (.cells Lib.zeros24 112)) rfl wn rfl rfl (fun a ha => ?_) ?_
  ·have e1 := ha.eval (x := .tmp 7) (v := .pointer (some ⟨w.heap.size, 0, none⟩)) rfl
   have e2 := ha.eval (x := .tmp 20) (v := .int .i64 (Lib.nDigits n.toNat : Int)) rfl
   simp only [execOp, e1, Option.map_some, Option.map_none, e2, hsl, Sem.run_bind, Result.andThen_ok, Sem.run_pure]
  refine LW.move wn rfl rfl ?_
  have hH0 := Lib.holds_zero0 w 112 (Lib.nDigits n.toNat) (by omega)
  have hfmt := Tryz.internal_strconv_formatBase10 w.heap.size 0 24 n.toNat (Array.replicate (Lib.nDigits n.toNat) 0) (w.alloc (.cells Lib.zeros24 112)) hH0 (by rw [Array.size_replicate]; exact Lib.lt_pow_nDigits n.toNat) hn64 (by rw [Array.size_replicate]; omega)
  rw [Array.size_replicate] at hfmt
  refine LW.call ⟨Tryz.f83, Tryz.func83, by kernel_rfl, by kernel_rfl⟩ (vs := [.slice (some ⟨w.heap.size, 0, none⟩) (Lib.nDigits n.toNat) 24, .int .u64 (n.toNat : Int)]) hfmt wn rfl rfl ?_
  rintro e w2 ⟨rfl, k, v', dk, rfl, hF⟩
  refine ⟨_, rfl, ?_⟩
  have hcells : ∀ j u', (Lib.byteCells (Lib.decDigits n.toNat))[j]? = some u' → ((putRow (fun (b : UInt8) => Value.int .u8 (b.toNat : Int)) (w.alloc (.cells Lib.zeros24 112)) w.heap.size 0 dk).drewN k).cell? ((⟨w.heap.size, 0, none⟩ : Addr).add j) = some u' := by
   intro j u' hj
   have hjl : j < (Lib.decDigits n.toNat).length := by
    have h5 := (List.getElem?_eq_some_iff.1 hj).1
    rwa [Lib.byteCells_length] at h5
   have e5 : (Lib.byteCells (Lib.decDigits n.toNat))[j]? = some (Value.int .u8 ((Lib.decDigits n.toNat)[j].toNat : Int)) := by simp [Lib.byteCells, hjl]
   rw [e5] at hj
   cases hj
   rw [Lib.row_is_numeral hF j hjl, Lib.add_plain, World.cell?_drewN]
   exact cell?_putRow (fun (b : UInt8) => Value.int .u8 (b.toNat : Int)) _ w.heap.size 0 _ dk hH0 (by rw [hF.size, Array.size_replicate]) j (by rw [hF.size]; rw [Lib.decDigits_length] at hjl; exact hjl)
  obtain ⟨os, eo⟩ := Lib.fin_at w (.cells Lib.zeros24 112) dk k 0
  have hB : Below w.heap.size w ((putRow (fun (b : UInt8) => Value.int .u8 (b.toNat : Int)) (w.alloc (.cells Lib.zeros24 112)) w.heap.size 0 dk).drewN k) := by rw [eo]; exact Lib.below_grow w.heap.size w (Nat.le_refl _) k os
  generalize (putRow (fun (b : UInt8) => Value.int .u8 (b.toNat : Int)) (w.alloc (.cells Lib.zeros24 112)) w.heap.size 0 dk).drewN k = W2 at hcells hB ⊢
  have hste : Ste lab 0 w lab W2 := ⟨hB.os, hB.tape, hB.output, hB.size, fun b hb _ => hB.block b hb, fun _ _ => rfl, fun b hb => t b (Nat.le_trans hB.size hb)⟩
  have o2 := o.step hste hk0
  have hcells2 : ∀ j u', ((Lib.decDigits n.toNat).map fun b : UInt8 => [Value.int .u8 (b.toNat : Int)]).flatten[j]? = some u' → W2.cell? ((⟨w.heap.size, 0, none⟩ : Addr).add j) = some u' := by
   rw [digits_flat]; exact hcells
  have hflat : Flat (rep (.int .u8)) lab W2 (some ⟨w.heap.size, 0, none⟩) (Lib.decDigits n.toNat) := ⟨fun h => (by cases h), (Lib.decDigits n.toNat).map fun b : UInt8 => [Value.int .u8 (b.toNat : Int)], alls_str lab W2 _, fun ad hadd j u hj => by cases hadd; exact hcells2 j u hj⟩
  refine LW.nil ?_
  refine EW.seq_n ?_
  repeat refine CW.seq ?_
  refine CW.region ?_
  refine LW.move wn rfl rfl ?_
  refine LW.move wn rfl rfl ?_
  refine LW.val (v := .slice (some ⟨w.heap.size, 0, none⟩) (Lib.nDigits n.toNat) 24) (w' := W2) rfl wn rfl rfl (fun a ha => ?_) ?_
  ·have e1 := ha.eval (x := .tmp 7) (v := .pointer (some ⟨w.heap.size, 0, none⟩)) rfl
   have e2 := ha.eval (x := .tmp 25) (v := .int .i64 (Lib.nDigits n.toNat : Int)) rfl
   simp only [execOp, e1, Option.map_some, Option.map_none, e2, hsl, Sem.run_bind, Result.andThen_ok, Sem.run_pure]
  refine LW.append (ρ := rep (.int .u8)) (kk := some) (ys := Lib.decDigits n.toNat) (c' := 24) happ o2 hflat hste.top hk0 hT rfl wn rfl rfl (by rw [show List.length (α := den (.int .u8)) (Lib.decDigits n.toNat) = Lib.nDigits n.toNat from Lib.decDigits_length _]; rfl) ?_
  intro zs oa2 c2 lab2 w2 hzs hs ho
  cases hzs
  refine LW.assign wn rfl rfl ?_
  refine LW.nil ?_
  refine EW.seq_n ?_
  refine CW.ret ?_
  repeat refine EW.seq_r ?_
  exact EW.ret1 rfl rfl ⟨lab2, oa2, c2, rfl, (hste.stp (.inr rfl)).trans (hs.stp (.inl (by simp))), ho⟩
theorem appU_some {a0 : List UInt8} {a1 : UInt64} {a2 : Int} {r : List UInt8} (h : m_internal_strconv_AppendUint_o a0 a1 a2 = some r) : a2 = 10 ∧ a0.length + (Lib.decDigits a1.toNat).length ≤ LIM ∧ r = a0 ++ Lib.decDigits a1.toNat := by
 unfold m_internal_strconv_AppendUint_o at h
 cases hb : a2 == 10 with
 | false => rw [hb] at h; cases h
 | true =>
  rw [hb] at h
  obtain ⟨h1, h2⟩ := app_some h
  exact ⟨by simpa using hb, h1, h2⟩
def con_internal_strconv_AppendUint_o : Con Tryz.prog := ⟨65, [.r 5 (.int .u8), .d (.int .u64), .d (.int .i64)], [.o 5 (.int .u8)], ⟨Tryz.f65, Tryz.func65, by kernel_rfl, by kernel_rfl⟩, m_internal_strconv_AppendUint_o, by
 intro a r h k kp gp lab w vs t gl hkp hk hargs
 match vs, hargs with
 | [v1, v2, v3], hargs =>
  obtain ⟨⟨oa, c, rfl, o⟩, h2, h3, _⟩ := hargs
  obtain rfl := Dat.int (k := .u64) h2
  obtain rfl := Dat.int (k := .i64) h3
  obtain ⟨e10, hlim, rfl⟩ := appU_some h
  have hkp := hkp rfl
  have e10 : toI .i64 a.2.2.1 = 10 := e10
  rw [e10]
  refine (c_AppU t gl hkp o a.2.1 hlim).mono ?_
  rintro e w' ⟨lab', oa', c', rfl, hs, o'⟩
  have tp' : Top lab' w' := hs.top
  refine ⟨relo lab' oa' k, [_], rfl, hs.trans (o'.stpR tp' k (by simp) hkp), ⟨oa', c', rfl, o'.relab tp' k hkp⟩, trivial⟩⟩
def con_internal_strconv_AppendUint : Con Tryz.prog := ⟨65, [.r 5 (.int .u8), .d (.int .u64), .d (.int .i64)], [.d (.sl (.int .u8))], ⟨Tryz.f65, Tryz.func65, by kernel_rfl, by kernel_rfl⟩, m_internal_strconv_AppendUint, by
 intro a r h k kp gp lab w vs t gl hkp hk hargs
 match vs, hargs with
 | [v1, v2, v3], hargs =>
  obtain ⟨⟨oa, c, rfl, o⟩, h2, h3, _⟩ := hargs
  obtain rfl := Dat.int (k := .u64) h2
  obtain rfl := Dat.int (k := .i64) h3
  obtain ⟨e10, hlim, rfl⟩ := appU_some h
  have hkp := hkp rfl
  have e10 : toI .i64 a.2.2.1 = 10 := e10
  rw [e10]
  refine (c_AppU t gl hkp o a.2.1 hlim).mono ?_
  rintro e w' ⟨lab', oa', c', rfl, hs, o'⟩
  have tp' : Top lab' w' := hs.top
  exact ⟨Gk.mask lab' kp, [_], rfl, hs.trans (Stp.mask tp' (by simp)), Dat.ofSl (t := .int .u8) o'.view, trivial⟩⟩
def t_strconv_AppendUint : Tab Tryz.prog := ⟨tes, ses, fes, bes, [con_internal_strconv_AppendUint], [], fds, [], qes, ges, mes, [], xes⟩
def h_strconv_AppendUint : Hint := (.s .n (.s .n .n))
def con_strconv_AppendUint : Con Tryz.prog := ⟨38, [.r 5 (.int .u8), .d (.int .u64), .d (.int .i64)], [.d (.sl (.int .u8))], ⟨Tryz.f38, Tryz.func38, by kernel_rfl, by kernel_rfl⟩, m_strconv_AppendUint, fun a r h => mkM_ok (T := t_strconv_AppendUint) (N := 11) (own := []) (rng := []) (c := (codeOf Tryz.f38)) (h := h_strconv_AppendUint) (qs := [.tmp 6]) kMix Tryz.func38 (by kernel_rfl) (by kernel_rfl) (by kernel_rfl) (by kernel_rfl) a r (Eq.trans (by kernel_rfl) h)⟩
def t_strconv_AppendUint_o : Tab Tryz.prog := ⟨tes, ses, fes, bes, [con_internal_strconv_AppendUint_o], [], fds, [], qes, ges, mes, [], xes⟩
def h_strconv_AppendUint_o : Hint := (.s .n (.s .n .n))
def con_strconv_AppendUint_o : Con Tryz.prog := ⟨38, [.r 5 (.int .u8), .d (.int .u64), .d (.int .i64)], [.o 5 (.int .u8)], ⟨Tryz.f38, Tryz.func38, by kernel_rfl, by kernel_rfl⟩, m_strconv_AppendUint_o, fun a r h => mkM_ok (T := t_strconv_AppendUint_o) (N := 11) (own := []) (rng := []) (c := (codeOf Tryz.f38)) (h := h_strconv_AppendUint_o) (qs := [.tmp 6]) kMix Tryz.func38 (by kernel_rfl) (by kernel_rfl) (by kernel_rfl) (by kernel_rfl) a r (Eq.trans (by kernel_rfl) h)⟩
def t_diag_hexed : Tab Tryz.prog := ⟨tes, ses, fes, bes, [], [], fds, [], qes, ges, mes, [], xes⟩
def h_diag_hexed : Hint := (.s .n (.s (.s .n (.b (.l (.a 9 8) ⟨[.o 0 5 (.int .u8)], [7, 8]⟩ (.s .n (.s (.c .n .n) (.s (.b (.s .n .n)) .n)))))) (.s .n .n)))
def con_diag_hexed : Con Tryz.prog := ⟨39, [.r 5 (.int .u8), .d (.sl (.int .u8))], [.d (.sl (.int .u8))], ⟨Tryz.f39, Tryz.func39, by kernel_rfl, by kernel_rfl⟩, m_diag_hexed, fun a r h => mkM_ok (T := t_diag_hexed) (N := 24) (own := [21]) (rng := [8]) (c := (codeOf Tryz.f39)) (h := h_diag_hexed) (qs := [.tmp 4]) kMix Tryz.func39 (by kernel_rfl) (by kernel_rfl) (by kernel_rfl) (by kernel_rfl) a r (Eq.trans (by kernel_rfl) h)⟩
def t_diag_hexed_o : Tab Tryz.prog := ⟨tes, ses, fes, bes, [], [], fds, [], qes, ges, mes, [], xes⟩
def h_diag_hexed_o : Hint := (.s .n (.s (.s .n (.b (.l (.a 9 8) ⟨[.o 0 5 (.int .u8)], [7, 8]⟩ (.s .n (.s (.c .n .n) (.s (.b (.s .n .n)) .n)))))) (.s .n .n)))
def con_diag_hexed_o : Con Tryz.prog := ⟨39, [.r 5 (.int .u8), .d (.sl (.int .u8))], [.o 5 (.int .u8)], ⟨Tryz.f39, Tryz.func39, by kernel_rfl, by kernel_rfl⟩, m_diag_hexed_o, fun a r h => mkM_ok (T := t_diag_hexed_o) (N := 24) (own := [21]) (rng := [8]) (c := (codeOf Tryz.f39)) (h := h_diag_hexed_o) (qs := [.tmp 4]) kMix Tryz.func39 (by kernel_rfl) (by kernel_rfl) (by kernel_rfl) (by kernel_rfl) a r (Eq.trans (by kernel_rfl) h)⟩
def t_diag_quoted : Tab Tryz.prog := ⟨tes, ses, fes, bes, [], [], fds, [], qes, ges, mes, [], xes⟩
def h_diag_quoted : Hint := (.s .n (.s .n (.s (.s .n (.b (.l (.a 12 11) ⟨[.o 0 5 (.int .u8)], [10, 11]⟩ (.s .n (.s (.c .n .n) (.j ⟨[.o 0 5 (.int .u8)], [10, 11, 12]⟩ false (.b (.s .n (.b (.j ⟨[.d 20 .bool], [0, 6, 10, 11, 12]⟩ false .n (.c .n (.j ⟨[.d 31 .bool], [0, 6, 10, 11, 12]⟩ false .n (.c .n .n))))))) .n)))))) (.s .n .n))))
def con_diag_quoted : Con Tryz.prog := ⟨40, [.r 5 (.int .u8), .d (.sl (.int .u8))], [.d (.sl (.int .u8))], ⟨Tryz.f40, Tryz.func40, by kernel_rfl, by kernel_rfl⟩, m_diag_quoted, fun a r h => mkM_ok (T := t_diag_quoted) (N := 51) (own := [9, 19, 30, 46]) (rng := [11]) (c := (codeOf Tryz.f40)) (h := h_diag_quoted) (qs := [.tmp 4]) kMix Tryz.func40 (by kernel_rfl) (by kernel_rfl) (by kernel_rfl) (by kernel_rfl) a r (Eq.trans (by kernel_rfl) h)⟩
def t_diag_quoted_o : Tab Tryz.prog := ⟨tes, ses, fes, bes, [], [], fds, [], qes, ges, mes, [], xes⟩
def h_diag_quoted_o : Hint := (.s .n (.s .n (.s (.s .n (.b (.l (.a 12 11) ⟨[.o 0 5 (.int .u8)], [10, 11]⟩ (.s .n (.s (.c .n .n) (.j ⟨[.o 0 5 (.int .u8)], [10, 11, 12]⟩ false (.b (.s .n (.b (.j ⟨[.d 20 .bool], [0, 6, 10, 11, 12]⟩ false .n (.c .n (.j ⟨[.d 31 .bool], [0, 6, 10, 11, 12]⟩ false .n (.c .n .n))))))) .n)))))) (.s .n .n))))
def con_diag_quoted_o : Con Tryz.prog := ⟨40, [.r 5 (.int .u8), .d (.sl (.int .u8))], [.o 5 (.int .u8)], ⟨Tryz.f40, Tryz.func40, by kernel_rfl, by kernel_rfl⟩, m_diag_quoted_o, fun a r h => mkM_ok (T := t_diag_quoted_o) (N := 51) (own := [9, 19, 30, 46, 50]) (rng := [11]) (c := (codeOf Tryz.f40)) (h := h_diag_quoted_o) (qs := [.tmp 4]) kMix Tryz.func40 (by kernel_rfl) (by kernel_rfl) (by kernel_rfl) (by kernel_rfl) a r (Eq.trans (by kernel_rfl) h)⟩
end
end Go.Proofs.YtbfkbakadpkgoaaGreatDoor
