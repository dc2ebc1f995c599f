/-
  The functions compute their models: what the evaluator gives is the model, by the kernel. No condition.
-/
import Derived.Test.YtmnbkcpopfmpdaaDoorMo
import Derived.Test.YtmnbkcpopfmpdaaDoorYSoG
import Derived.Test.YtmnbkcpopfmpdaaDoorShelf
namespace Go.Proofs.YtmnbkcpopfmpdaaDoor
open Go.Gk Go.RowKit
noncomputable section
set_option maxRecDepth 100000

theorem maxLen_cell {lab : Lab} {w : World} (h : GL lab w) : ∃ m, w.cell? ⟨0, 0, none⟩ = some (.int .i64 m) := by
  obtain ⟨w0, hf, hg⟩ := h
  obtain ⟨m, hm⟩ : ∃ m, w0.cell? ⟨0, 0, none⟩ = some (.int .i64 m) := by first | exact hf | exact hf.1
  obtain ⟨_, _, h2⟩ := hg 0 (by decide)
  exact ⟨m, by rw [World.cell?_of_block (w := w0) (a := ⟨0, 0, none⟩) h2]; exact hm⟩
theorem c_strings_Split {lab : Lab} {w : World} (t : Top lab w) (gl : GL lab w) (s q : List UInt8) (hq : 0 < q.length) (hs : s.length < 4294967281) : Calls Tryd.prog 40 [strV s, strV q].toArray w fun e w' =>
    ∃ lab' v, e = .returned v ∧ Stp [] lab w lab' w' ∧ Dat (.sl .str) (Lib.split s q) lab' w' v := by
  obtain ⟨m, hm⟩ := maxLen_cell gl
  refine (Tryd.strings_Split ⟨s.toArray⟩ ⟨q.toArray⟩ m w (by rw [strV_size]; exact hs) hm (by rw [strV_size]; exact hq)).mono ?_
  rintro e w' ⟨rfl, rfl⟩
  have hl := Lib.splitB_all ⟨q.toArray⟩ (by rw [strV_size]; exact hq) 0 (Lib.countB ⟨s.toArray⟩ ⟨q.toArray⟩) ⟨s.toArray⟩ rfl
  have hc := Lib.countB_le ⟨q.toArray⟩ (by rw [strV_size]; exact hq) s.length ⟨s.toArray⟩ (by rw [strV_size]; exact Nat.le_refl _)
  rw [strV_size] at hc
  have hd := Lib.splitB_data ⟨q.toArray⟩ 0 (Lib.countB ⟨s.toArray⟩ ⟨q.toArray⟩) ⟨s.toArray⟩
  have hd : (Lib.splitB ⟨q.toArray⟩ 0 (Lib.countB ⟨s.toArray⟩ ⟨q.toArray⟩) ⟨s.toArray⟩).map (·.data.toList) = Lib.split s q := hd
  generalize Lib.splitB ⟨q.toArray⟩ 0 (Lib.countB ⟨s.toArray⟩ ⟨q.toArray⟩) ⟨s.toArray⟩ = cs at hl hd
  have hll : (Lib.split s q).length = cs.length := by rw [← hd, List.length_map]
  refine ⟨relab lab w.heap.size 0, _, rfl, (Ste.alloc t 0 _).stp (.inr rfl), ?_⟩
  rw [← hl, ← hll]
  refine Dat.ofSl (t := .str) ⟨Nat.le_refl _, by unfold maxLen; rw [hll, hl]; omega, fun i x hx => ?_⟩
  have hx : (Lib.split s q)[i]? = some x := hx
  rw [← hd, List.getElem?_map] at hx
  obtain ⟨y, hy, rfl⟩ := Option.map_eq_some_iff.1 hx
  refine ⟨_, [.string y], rfl, rfl, fun j u hu => ⟨?_, ?_⟩⟩
  · rw [block_add]; exact if_pos rfl
  · match j, hu with
    | 0, hu =>
      cases hu
      rw [add_zero', add_lit0, Nat.zero_add, show i * (rep .str).sz = i from Nat.mul_one i, cell_of_row _ w.heap.size _ _ _ (0, 0) (heap_alloc_new w _)]
      simp [hy]
def con_strings_Split : Con Tryd.prog := ⟨40, [.d .str, .d .str], [.d (.sl .str)], ⟨Tryd.f40, Tryd.func40, by kernel_rfl, by kernel_rfl⟩, m_strings_Split, by
  intro a r h k kp gp lab w vs t gl _ hk hargs
  match vs, hargs with
  | [v1, v2], hargs =>
    obtain ⟨h1, h2, _⟩ := hargs
    obtain rfl := Dat.str h1
    obtain rfl := Dat.str h2
    have h : m_strings_Split a.1 a.2.1 = some r := h
    unfold m_strings_Split at h
    cases hb : Nat.blt 0 (List.length (α := UInt8) a.2.1) && Nat.blt (List.length (α := UInt8) a.1) 4294967281 with
    | false => rw [hb] at h; cases h
    | true =>
      rw [hb] at h
      cases h
      rw [Bool.and_eq_true] at hb
      refine (c_strings_Split t gl a.1 a.2.1 (blt_lt hb.1) (blt_lt hb.2)).mono ?_
      rintro e w' ⟨lab', v, rfl, hs, hd⟩
      exact ⟨lab', [v], rfl, hs, hd, trivial⟩⟩


theorem c_strings_IndexByte (s : List UInt8) (c : UInt8) (w : World) : Calls Tryd.prog 56 [strV s, .int .u8 (c.toNat : Int)].toArray w fun e w' => e = .returned (.int .i64 (Lib.indexByte s c)) ∧ w' = w := by
  have h := Tryd.strings_IndexByte ⟨s.toArray⟩ (c.toNat : Int) w
  have e : ((c.toNat : Int)).toNat.toUInt8 = c := by simp
  rw [e] at h
  exact h
def con_strings_IndexByte : Con Tryd.prog := ⟨56, [.d .str, .d (.int .u8)], [.d (.int .i64)], ⟨Tryd.f56, Tryd.func56, by kernel_rfl, by kernel_rfl⟩, m_strings_IndexByte, by
  intro a r h k kp gp lab w vs t _ _ hk hargs
  match vs, hargs with
  | [v1, v2], hargs =>
    obtain ⟨h1, h2, _⟩ := hargs
    obtain rfl := Dat.str h1
    obtain rfl := Dat.int (k := .u8) h2
    have h : some (Lib.indexByte a.1 a.2.1) = some r := h
    cases h
    refine (c_strings_IndexByte a.1 a.2.1 w).mono ?_
    rintro e w' ⟨rfl, rfl⟩
    exact ⟨lab, [_], rfl, Stp.refl t, Dat.ofInt (k := .i64) _, trivial⟩⟩


theorem c_HasSuffix (s p : List UInt8) (hs : s.length ≤ 9223372036854775807) (w : World) : Calls Tryd.prog 57 [strV s, strV p].toArray w fun e w' => e = .returned (.bool (Lib.hasSuffix s p)) ∧ w' = w :=
  Tryd.strings_HasSuffix ⟨s.toArray⟩ ⟨p.toArray⟩ w (by rw [strV_size]; exact hs)
def con_strings_HasSuffix : Con Tryd.prog := ⟨57, [.d .str, .d .str], [.d .bool], ⟨Tryd.f57, Tryd.func57, by kernel_rfl, by kernel_rfl⟩, m_strings_HasSuffix, by
  intro a r h k kp gp lab w vs t _ _ hk hargs
  match vs, hargs with
  | [v1, v2], hargs =>
    obtain ⟨h1, h2, _⟩ := hargs
    obtain rfl := Dat.str h1
    obtain rfl := Dat.str h2
    have h : m_strings_HasSuffix a.1 a.2.1 = some r := h
    unfold m_strings_HasSuffix at h
    cases hb : Nat.ble (List.length (α := UInt8) a.1) 9223372036854775807 with
    | false => rw [hb] at h; cases h
    | true =>
      rw [hb] at h
      cases h
      refine (c_HasSuffix a.1 a.2.1 (Nat.le_of_ble_eq_true hb) w).mono ?_
      rintro e w' ⟨rfl, rfl⟩
      exact ⟨lab, [_], rfl, Stp.refl t, Dat.ofBool _, trivial⟩⟩

theorem kUnd_9 : Tryd.prog.underlying 9 = some .string := by kernel_rfl
section
variable {P : Program} {N : Nat} {ops : Array Oper} {F : List (Nat × Value)} {w : World} {rest : List Oper} {K : Kont}
variable {ty : TypeId} {pos : String} {af : Array Edge} {g : Option (Nat × Bool)} {d : Nat} {x y : Operand} {t t' : TypeId}
theorem LW.gtr_lit {a b : Int} {ik : IntKind} {tv : Bool} (he : decide (b < a) = tv) (hw : Wn ops F g) (hdN : Nat.blt d N = true) (hx : ev F x = some (.int ik a)) (hy : ev F y = some (.int ik b))
    (h : LW P N ops rest ((d, .bool tv) :: F) w K) : LW P N ops (⟨some d, .binOp .gtr t x y t', ty, pos, af, g⟩ :: rest) F w K :=
  LW.gtr (kb := some) (r := tv) (by rw [he]; rfl) hw hdN hx hy (fun c hc => by cases hc; exact h)
theorem LW.eql_lit {a b : Int} {ik : IntKind} {tv : Bool} (he : (a == b) = tv) (hw : Wn ops F g) (hdN : Nat.blt d N = true) (hx : ev F x = some (.int ik a)) (hy : ev F y = some (.int ik b))
    (h : LW P N ops rest ((d, .bool tv) :: F) w K) : LW P N ops (⟨some d, .binOp .eql t x y t', ty, pos, af, g⟩ :: rest) F w K :=
  LW.eql (kb := some) (r := tv) (by rw [he]; rfl) hw hdN hx hy (fun c hc => by cases hc; exact h)
theorem LW.neq_lit {a b : Int} {ik : IntKind} {tv : Bool} (he : (a != b) = tv) (hw : Wn ops F g) (hdN : Nat.blt d N = true) (hx : ev F x = some (.int ik a)) (hy : ev F y = some (.int ik b))
    (h : LW P N ops rest ((d, .bool tv) :: F) w K) : LW P N ops (⟨some d, .binOp .neq t x y t', ty, pos, af, g⟩ :: rest) F w K :=
  LW.neq (kb := some) (r := tv) (by rw [he]; rfl) hw hdN hx hy (fun c hc => by cases hc; exact h)
theorem LW.idxS {l : List UInt8} {i : Int} {c : UInt8} {k : IntKind} {T : TypeId} (h0 : 0 ≤ i) (hc : l[i.toNat]? = some c) (hT : P.underlying T = some .string) (hw : Wn ops F g) (hdN : Nat.blt d N = true) (hx : ev F x = some (strV l)) (hy : ev F y = some (.int k i))
    (h : LW P N ops rest ((d, .int .u8 (c.toNat : Int)) :: F) w K) : LW P N ops (⟨some d, .index T x y, ty, pos, af, g⟩ :: rest) F w K :=
  LW.val rfl hw rfl hdN (fun q hq => by simp only [execOp, hq.eval hx, hq.eval hy, Sem.run_bind, run_indexS hT l h0 hc, Result.andThen_ok, Sem.run_pure]) h
theorem LW.rangeS {l : List UInt8} {T : TypeId} (hT : P.underlying T = some .string) (hw : Wn ops F g) (hdN : Nat.blt d N = true) (hx : ev F x = some (strV l))
    (h : LW P N ops rest ((d, .pointer (some ⟨w.heap.size, 0, none⟩)) :: F) (w.iter ⟨l.toArray⟩ 0) K) : LW P N ops (⟨some d, .range T x, ty, pos, af, g⟩ :: rest) F w K :=
  LW.val rfl hw rfl hdN (fun q hq => by simp [execOp, hq.eval hx, strV, run_range_string w T _ hT]) h
theorem run_next_any (w : World) (s : ByteArray) (pos : Nat) (ty : TypeId) (h : pos < s.size) :
    (Instr.next (.pointer (some ⟨w.heap.size, 0, none⟩)) true ty).run P (w.iter s pos) = .ok (.tuple #[.bool true, .int .i64 pos, .int .i32 ((Utf8.decode s pos).1 : Nat)]) (w.iter s (pos + (Utf8.decode s pos).2)) := by
  simp only [Instr.next, getObj, setObj, Sem.run_bind, Sem.run, World.iter_heap, Result.andThen, h, if_true, World.iter_set]
  simp [goInt, Sem.run, World.iter_heap, World.iter_set]
theorem LW.nextS {l : List UInt8} {i : Nat} (hi : i < l.length) (hw : Wn ops F g) (hdN : Nat.blt d N = true) (hx : ev F x = some (.pointer (some ⟨w.heap.size, 0, none⟩)))
    (h : LW P N ops rest ((d, .tuple [.bool true, .int .i64 (i : Int), .int .i32 ((Utf8.decode ⟨l.toArray⟩ i).1 : Nat)].toArray) :: F) (w.iter ⟨l.toArray⟩ (i + (Utf8.decode ⟨l.toArray⟩ i).2)) K) :
    LW P N ops (⟨some d, .next x true, ty, pos, af, g⟩ :: rest) F (w.iter ⟨l.toArray⟩ i) K :=
  LW.val rfl hw rfl hdN (fun q hq => by simp only [execOp, hq.eval hx, Sem.run_bind, run_next_any (P := P) w _ _ _ (show i < (ByteArray.mk l.toArray).size by rw [strV_size]; exact hi), Result.andThen_ok, Sem.run_pure]) h
theorem LW.nextE {l : List UInt8} {i : Nat} (hi : ¬ i < l.length) (hw : Wn ops F g) (hdN : Nat.blt d N = true) (hx : ev F x = some (.pointer (some ⟨w.heap.size, 0, none⟩)))
    (h : LW P N ops rest ((d, .tuple [.bool false].toArray) :: F) (w.iter ⟨l.toArray⟩ i) K) :
    LW P N ops (⟨some d, .next x true, ty, pos, af, g⟩ :: rest) F (w.iter ⟨l.toArray⟩ i) K :=
  LW.val rfl hw rfl hdN (fun q hq => by simp only [execOp, hq.eval hx, Sem.run_bind, run_next_end (P := P) w _ _ _ (show ¬ i < (ByteArray.mk l.toArray).size by rw [strV_size]; exact hi), Result.andThen_ok, Sem.run_pure]) h
end
theorem get_of {l : List UInt8} {i : Nat} {c : UInt8} (h : l[i]? = some c) : (ByteArray.mk l.toArray).get! i = c := by
  obtain ⟨hlt, rfl⟩ := List.getElem?_eq_some_iff.1 h
  show l.toArray[i]! = _
  simp [hlt]
theorem decode_lo {l : List UInt8} {i : Nat} {c : UInt8} (h : l[i]? = some c) (hc : c.toNat < 128) : Utf8.decode ⟨l.toArray⟩ i = (c.toNat, 1) := by
  unfold Utf8.decode
  simp only [Nat.add_zero, get_of h]
  rw [if_pos (by omega)]
theorem decode_hi {l : List UInt8} {i : Nat} {c : UInt8} (h : l[i]? = some c) (hc : 128 ≤ c.toNat) : 126 < (Utf8.decode ⟨l.toArray⟩ i).1 := by
  unfold Utf8.decode
  simp only [Nat.add_zero, get_of h]
  rw [if_neg (by omega)]
  have e : Utf8.runeError = 65533 := rfl
  repeat' split
  all_goals first | (rename_i hq; simp only [Bool.and_eq_true, decide_eq_true_eq] at hq; omega) | omega
theorem wrOk_no {l : List UInt8} {k : Nat} {c : UInt8} (h : l[k]? = some c) (hb : (decide (((Utf8.decode ⟨l.toArray⟩ k).1 : Int) < 33) || (decide (126 < ((Utf8.decode ⟨l.toArray⟩ k).1 : Int)) || ((((Utf8.decode ⟨l.toArray⟩ k).1 : Int) == 44) || ((((Utf8.decode ⟨l.toArray⟩ k).1 : Int) == 59) || (((Utf8.decode ⟨l.toArray⟩ k).1 : Int) == 42))))) = true) : wrOk c = false := by
  by_cases hc : c.toNat < 128
  · rw [decode_lo h hc] at hb
    simp only [Bool.or_eq_true, decide_eq_true_eq, beq_iff_eq] at hb
    cases hw : wrOk c with
    | false => rfl
    | true =>
      unfold wrOk at hw
      rw [decide_eq_true_eq] at hw
      omega
  · cases hw : wrOk c with
    | false => rfl
    | true =>
      unfold wrOk at hw
      rw [decide_eq_true_eq] at hw
      omega
theorem wrOk_yes {l : List UInt8} {k : Nat} {c : UInt8} (h : l[k]? = some c) (h0 : decide (((Utf8.decode ⟨l.toArray⟩ k).1 : Int) < 33) = false) (h1 : decide (126 < ((Utf8.decode ⟨l.toArray⟩ k).1 : Int)) = false) (h2 : (((Utf8.decode ⟨l.toArray⟩ k).1 : Int) == 44) = false) (h3 : (((Utf8.decode ⟨l.toArray⟩ k).1 : Int) == 59) = false) (h4 : (((Utf8.decode ⟨l.toArray⟩ k).1 : Int) == 42) = false) : c.toNat < 128 ∧ wrOk c = true := by
  by_cases hc : c.toNat < 128
  · rw [decode_lo h hc] at h0 h1 h2 h3 h4
    simp only [decide_eq_false_iff_not, beq_eq_false_iff_ne, ne_eq] at h0 h1 h2 h3 h4
    refine ⟨hc, ?_⟩
    unfold wrOk
    rw [decide_eq_true_eq]
    omega
  · have := decode_hi h (by omega)
    simp only [decide_eq_false_iff_not] at h1
    omega
theorem iter_stp {lab : Lab} {w : World} {s : ByteArray} {i : Nat} (t : Top lab w) : Stp [] lab w lab (w.iter s i) := by
  have hs : (w.iter s i).heap.size = w.heap.size + 1 := by show (w.heap.push _).size = _; rw [Array.size_push]
  refine ⟨rfl, rfl, rfl, by omega, fun b hb _ => ?_, fun _ _ _ => rfl, fun b hb => t b (by omega)⟩
  show (w.heap.push _)[b]? = _
  rw [Array.getElem?_push]
  rw [if_neg (by omega)]
theorem c_written {lab : Lab} {w : World} (l : List UInt8) (t : Top lab w) : Calls Tryd.prog 34 [strV l].toArray w fun e w' => e = .returned (.bool (Nat.ble l.length 64 && (wrHead l && l.all wrOk))) ∧ Stp [] lab w lab w' := by
  refine enter Tryd.func34 rfl 41 rfl rfl ?_
  refine CW.seq ?_
  refine CW.region ?_
  refine LW.assign wn rfl rfl ?_
  refine LW.nil ?_
  refine EW.seq_n ?_
  have hbad : ∀ {F : List (Nat × Value)}, Gk.look F 2 = some (.bool false) → (Nat.ble l.length 64 && (wrHead l && l.all wrOk)) = false → EW 41 .ret F w (bodyPost Tryd.prog Tryd.f34 fun e w' => e = .returned (.bool (Nat.ble l.length 64 && (wrHead l && l.all wrOk))) ∧ Stp [] lab w lab w') := fun hF hb => EW.ret1 rfl hF ⟨by rw [hb], Stp.refl t⟩
  refine CW.seq_join (fun F_ w' => F_ = [(0, strV l)] ∧ w' = w ∧ Nat.ble l.length 64 = true ∧ wrHead l = true) ?_ ?_
  · refine CW.seq ?_
    refine CW.region ?_
    refine LW.move wn rfl rfl ?_
    refine LW.lenS kUnd_9 wn rfl rfl ?_
    rcases (Bool.eq_false_or_eq_true (Nat.ble l.length 64)).symm with h64 | h64
    · have hgt : decide ((64 : Int) < (l.length : Int)) = true := decide_eq_true (by
        have : ¬ l.length ≤ 64 := fun h => by rw [Nat.ble_eq_true_of_le h] at h64; cases h64
        omega)
      refine LW.gtr_lit hgt wn rfl rfl rfl ?_
      refine LW.move wn rfl rfl ?_
      refine LW.skip 8 rfl rfl rfl rfl ?_
      refine LW.skip 8 rfl rfl rfl rfl ?_
      refine LW.skip 8 rfl rfl rfl rfl ?_
      refine LW.skip 8 rfl rfl rfl rfl ?_
      refine LW.skipU 12 rfl rfl rfl ?_
      refine LW.skipU 12 rfl rfl rfl ?_
      refine LW.skipU 12 rfl rfl rfl ?_
      refine LW.skip 8 rfl rfl rfl rfl ?_
      refine LW.pick_t wn rfl rfl rfl ?_
      refine LW.nil ?_
      refine EW.seq_n ?_
      refine CW.cond_t rfl ?_
      refine CW.seq ?_
      refine CW.region ?_
      refine LW.assign wn rfl rfl ?_
      refine LW.nil ?_
      refine EW.seq_n ?_
      refine CW.ret ?_
      refine EW.join_r ?_
      exact hbad rfl (by rw [h64]; rfl)
    · have hle : decide ((64 : Int) < (l.length : Int)) = false := decide_eq_false (by have := Nat.le_of_ble_eq_true h64; omega)
      refine LW.gtr_lit hle wn rfl rfl rfl ?_
      refine LW.move wn rfl rfl ?_
      refine LW.move (ws 8 rfl rfl) rfl rfl ?_
      refine LW.lenS kUnd_9 (ws 8 rfl rfl) rfl rfl ?_
      by_cases hl : l = []
      · have hh : wrHead l = true := by rw [hl]; rfl
        refine LW.gtr_lit (tv := false) (by rw [hl]; rfl) (ws 8 rfl rfl) rfl rfl rfl ?_
        refine LW.move (ws 8 rfl rfl) rfl rfl ?_
        refine LW.skip 12 rfl rfl rfl rfl ?_
        refine LW.skip 12 rfl rfl rfl rfl ?_
        refine LW.skip 12 rfl rfl rfl rfl ?_
        refine LW.pick_f (ws 8 rfl rfl) rfl rfl rfl ?_
        refine LW.pick_f wn rfl rfl rfl ?_
        refine LW.nil ?_
        refine EW.seq_n ?_
        refine CW.cond_f rfl ?_
        refine CW.skip ?_
        refine EW.sub (G := [(0, strV l)]) ⟨rfl, trivial⟩ ?_
        exact EW.join_n ⟨rfl, rfl, h64, hh⟩
      · obtain ⟨c, q, hcq⟩ := List.exists_cons_of_ne_nil hl
        have h0 : l[(0 : Int).toNat]? = some c := by rw [hcq]; rfl
        refine LW.gtr_lit (tv := true) (decide_eq_true (by rw [hcq]; simp)) (ws 8 rfl rfl) rfl rfl rfl ?_
        refine LW.move (ws 8 rfl rfl) rfl rfl ?_
        refine LW.move (ws 12 rfl rfl) rfl rfl ?_
        refine LW.idxS (Int.le_refl 0) h0 kUnd_9 (ws 12 rfl rfl) rfl rfl rfl ?_
        have hw : wrHead l = Nat.beq c.toNat 47 := by rw [hcq]; rfl
        cases hb : Nat.beq c.toNat 47 with
        | true =>
          have hc := Nat.eq_of_beq_eq_true hb
          refine LW.neq_lit (tv := false) (by rw [hc]; rfl) (ws 12 rfl rfl) rfl rfl rfl ?_
          refine LW.pick_t (ws 8 rfl rfl) rfl rfl rfl ?_
          refine LW.pick_f wn rfl rfl rfl ?_
          refine LW.nil ?_
          refine EW.seq_n ?_
          refine CW.cond_f rfl ?_
          refine CW.skip ?_
          refine EW.sub (G := [(0, strV l)]) ⟨rfl, trivial⟩ ?_
          exact EW.join_n ⟨rfl, rfl, h64, hw.trans hb⟩
        | false =>
          have hne : c.toNat ≠ 47 := fun e => by rw [e] at hb; cases hb
          refine LW.neq_lit (tv := true) (by simp only [bne_iff_ne, ne_eq]; omega) (ws 12 rfl rfl) rfl rfl rfl ?_
          refine LW.pick_t (ws 8 rfl rfl) rfl rfl rfl ?_
          refine LW.pick_f wn rfl rfl rfl ?_
          refine LW.nil ?_
          refine EW.seq_n ?_
          refine CW.cond_t rfl ?_
          refine CW.seq ?_
          refine CW.region ?_
          refine LW.assign wn rfl rfl ?_
          refine LW.nil ?_
          refine EW.seq_n ?_
          refine CW.ret ?_
          refine EW.join_r ?_
          exact hbad rfl (by rw [hw, hb, Bool.false_and, Bool.and_false])
  · rintro _ w2 ⟨rfl, hv, h64, hh⟩
    subst hv
    rw [h64, hh, Bool.true_and, Bool.true_and]
    clear hbad
    refine CW.seq ?_
    refine CW.seq ?_
    refine CW.region ?_
    refine LW.move wn rfl rfl ?_
    refine LW.rangeS kUnd_9 wn rfl rfl ?_
    refine LW.nil ?_
    refine EW.seq_n ?_
    refine CW.block ?_
    refine CW.sub (G := [(19, .pointer (some ⟨w2.heap.size, 0, none⟩))]) ⟨rfl, trivial⟩ ?_
    refine CW.loop (fun n F_ v => ∃ k rem, n = rem.length ∧ l.drop k = rem ∧ F_ = [(19, .pointer (some ⟨w2.heap.size, 0, none⟩))] ∧ v = w2.iter ⟨l.toArray⟩ k ∧ rem.all wrOk = l.all wrOk) _ ⟨0, l, rfl, rfl, rfl, rfl, rfl⟩ ?_
    rintro _ _ _ ⟨k, rem, rfl, hk, rfl, rfl, hall⟩
    refine CW.seq ?_
    refine CW.region ?_
    cases rem with
    | nil =>
      have hlen : ¬ k < l.length := fun h => by
        have := congrArg List.length hk
        rw [List.length_drop, List.length_nil] at this
        omega
      refine LW.nextE hlen wn rfl rfl ?_
      refine LW.extract (v := .bool false) wn rfl rfl rfl ?_
      refine LW.nil ?_
      refine EW.seq_n ?_
      refine CW.seq ?_
      refine CW.cond_f rfl ?_
      refine CW.exit ?_
      refine EW.seq_x ?_
      refine EW.join_x ?_
      refine EW.block_x ?_
      refine EW.seq_n ?_
      refine CW.seq ?_
      refine CW.region ?_
      refine LW.assign wn rfl rfl ?_
      refine LW.nil ?_
      refine EW.seq_n ?_
      refine CW.ret ?_
      exact EW.ret1 rfl rfl ⟨by rw [← hall]; rfl, iter_stp t⟩
    | cons c rem =>
      have hlt : k < l.length := by
        have := congrArg List.length hk
        rw [List.length_drop, List.length_cons] at this
        omega
      have hc : l[k]? = some c := by
        have := congrArg (fun z => z[0]?) hk
        simpa using this
      have hk' : l.drop (k + 1) = rem := by
        have := congrArg (fun z => z.drop 1) hk
        simpa using this
      refine LW.nextS hlt wn rfl rfl ?_
      refine LW.extract (v := .bool true) wn rfl rfl rfl ?_
      refine LW.nil ?_
      refine EW.seq_n ?_
      refine CW.seq ?_
      refine CW.cond_t rfl ?_
      refine CW.skip ?_
      refine EW.seq_n ?_
      refine CW.block ?_
      refine CW.seq ?_
      refine CW.region ?_
      refine LW.extract (v := .int .i32 ((Utf8.decode ⟨l.toArray⟩ k).1 : Nat)) wn rfl rfl rfl ?_
      refine LW.assign wn rfl rfl ?_
      refine LW.nil ?_
      refine EW.seq_n ?_
      refine CW.seq ?_
      refine CW.region ?_
      have hbad : ∀ {F : List (Nat × Value)} {j : Nat}, Gk.look F 2 = some (.bool false) → wrOk c = false → EW 41 .ret F (w2.iter ⟨l.toArray⟩ j) (bodyPost Tryd.prog Tryd.f34 fun e v => e = .returned (.bool (l.all wrOk)) ∧ Stp [] lab w2 lab v) := fun hF hb => EW.ret1 rfl hF ⟨by rw [← hall, List.all_cons, hb, Bool.false_and], iter_stp t⟩
      cases h0 : decide (((Utf8.decode ⟨l.toArray⟩ k).1 : Int) < 33) with
      | true =>
        have hno : wrOk c = false := wrOk_no hc (by rw [h0]; simp)
        refine LW.move wn rfl rfl ?_
        refine LW.lss_lit h0 wn rfl rfl rfl ?_
        refine LW.move wn rfl rfl ?_
        refine LW.skip 25 rfl rfl rfl rfl ?_
        refine LW.skip 25 rfl rfl rfl rfl ?_
        refine LW.pick_t wn rfl rfl rfl ?_
        refine LW.move wn rfl rfl ?_
        refine LW.skip 29 rfl rfl rfl rfl ?_
        refine LW.skip 29 rfl rfl rfl rfl ?_
        refine LW.pick_t wn rfl rfl rfl ?_
        refine LW.move wn rfl rfl ?_
        refine LW.skip 33 rfl rfl rfl rfl ?_
        refine LW.skip 33 rfl rfl rfl rfl ?_
        refine LW.pick_t wn rfl rfl rfl ?_
        refine LW.move wn rfl rfl ?_
        refine LW.skip 37 rfl rfl rfl rfl ?_
        refine LW.skip 37 rfl rfl rfl rfl ?_
        refine LW.pick_t wn rfl rfl rfl ?_
        refine LW.nil ?_
        refine EW.seq_n ?_
        refine CW.cond_t rfl ?_
        refine CW.seq ?_
        refine CW.region ?_
        refine LW.assign wn rfl rfl ?_
        refine LW.nil ?_
        refine EW.seq_n ?_
        refine CW.ret ?_
        refine EW.block_r ?_
        refine EW.join_r ?_
        refine EW.block_r ?_
        refine EW.seq_r ?_
        exact hbad rfl hno
      | false =>
        cases h1 : decide (126 < ((Utf8.decode ⟨l.toArray⟩ k).1 : Int)) with
        | true =>
          have hno : wrOk c = false := wrOk_no hc (by rw [h1]; simp)
          refine LW.move wn rfl rfl ?_
          refine LW.lss_lit h0 wn rfl rfl rfl ?_
          refine LW.move wn rfl rfl ?_
          refine LW.move (ws 25 rfl rfl) rfl rfl ?_
          refine LW.gtr_lit h1 (ws 25 rfl rfl) rfl rfl rfl ?_
          refine LW.pick_f wn rfl rfl rfl ?_
          refine LW.move wn rfl rfl ?_
          refine LW.skip 29 rfl rfl rfl rfl ?_
          refine LW.skip 29 rfl rfl rfl rfl ?_
          refine LW.pick_t wn rfl rfl rfl ?_
          refine LW.move wn rfl rfl ?_
          refine LW.skip 33 rfl rfl rfl rfl ?_
          refine LW.skip 33 rfl rfl rfl rfl ?_
          refine LW.pick_t wn rfl rfl rfl ?_
          refine LW.move wn rfl rfl ?_
          refine LW.skip 37 rfl rfl rfl rfl ?_
          refine LW.skip 37 rfl rfl rfl rfl ?_
          refine LW.pick_t wn rfl rfl rfl ?_
          refine LW.nil ?_
          refine EW.seq_n ?_
          refine CW.cond_t rfl ?_
          refine CW.seq ?_
          refine CW.region ?_
          refine LW.assign wn rfl rfl ?_
          refine LW.nil ?_
          refine EW.seq_n ?_
          refine CW.ret ?_
          refine EW.block_r ?_
          refine EW.join_r ?_
          refine EW.block_r ?_
          refine EW.seq_r ?_
          exact hbad rfl hno
        | false =>
          cases h2 : (((Utf8.decode ⟨l.toArray⟩ k).1 : Int) == 44) with
          | true =>
            have hno : wrOk c = false := wrOk_no hc (by rw [h2]; simp)
            refine LW.move wn rfl rfl ?_
            refine LW.lss_lit h0 wn rfl rfl rfl ?_
            refine LW.move wn rfl rfl ?_
            refine LW.move (ws 25 rfl rfl) rfl rfl ?_
            refine LW.gtr_lit h1 (ws 25 rfl rfl) rfl rfl rfl ?_
            refine LW.pick_f wn rfl rfl rfl ?_
            refine LW.move wn rfl rfl ?_
            refine LW.move (ws 29 rfl rfl) rfl rfl ?_
            refine LW.eql_lit h2 (ws 29 rfl rfl) rfl rfl rfl ?_
            refine LW.pick_f wn rfl rfl rfl ?_
            refine LW.move wn rfl rfl ?_
            refine LW.skip 33 rfl rfl rfl rfl ?_
            refine LW.skip 33 rfl rfl rfl rfl ?_
            refine LW.pick_t wn rfl rfl rfl ?_
            refine LW.move wn rfl rfl ?_
            refine LW.skip 37 rfl rfl rfl rfl ?_
            refine LW.skip 37 rfl rfl rfl rfl ?_
            refine LW.pick_t wn rfl rfl rfl ?_
            refine LW.nil ?_
            refine EW.seq_n ?_
            refine CW.cond_t rfl ?_
            refine CW.seq ?_
            refine CW.region ?_
            refine LW.assign wn rfl rfl ?_
            refine LW.nil ?_
            refine EW.seq_n ?_
            refine CW.ret ?_
            refine EW.block_r ?_
            refine EW.join_r ?_
            refine EW.block_r ?_
            refine EW.seq_r ?_
            exact hbad rfl hno
          | false =>
            cases h3 : (((Utf8.decode ⟨l.toArray⟩ k).1 : Int) == 59) with
            | true =>
              have hno : wrOk c = false := wrOk_no hc (by rw [h3]; simp)
              refine LW.move wn rfl rfl ?_
              refine LW.lss_lit h0 wn rfl rfl rfl ?_
              refine LW.move wn rfl rfl ?_
              refine LW.move (ws 25 rfl rfl) rfl rfl ?_
              refine LW.gtr_lit h1 (ws 25 rfl rfl) rfl rfl rfl ?_
              refine LW.pick_f wn rfl rfl rfl ?_
              refine LW.move wn rfl rfl ?_
              refine LW.move (ws 29 rfl rfl) rfl rfl ?_
              refine LW.eql_lit h2 (ws 29 rfl rfl) rfl rfl rfl ?_
              refine LW.pick_f wn rfl rfl rfl ?_
              refine LW.move wn rfl rfl ?_
              refine LW.move (ws 33 rfl rfl) rfl rfl ?_
              refine LW.eql_lit h3 (ws 33 rfl rfl) rfl rfl rfl ?_
              refine LW.pick_f wn rfl rfl rfl ?_
              refine LW.move wn rfl rfl ?_
              refine LW.skip 37 rfl rfl rfl rfl ?_
              refine LW.skip 37 rfl rfl rfl rfl ?_
              refine LW.pick_t wn rfl rfl rfl ?_
              refine LW.nil ?_
              refine EW.seq_n ?_
              refine CW.cond_t rfl ?_
              refine CW.seq ?_
              refine CW.region ?_
              refine LW.assign wn rfl rfl ?_
              refine LW.nil ?_
              refine EW.seq_n ?_
              refine CW.ret ?_
              refine EW.block_r ?_
              refine EW.join_r ?_
              refine EW.block_r ?_
              refine EW.seq_r ?_
              exact hbad rfl hno
            | false =>
              cases h4 : (((Utf8.decode ⟨l.toArray⟩ k).1 : Int) == 42) with
              | true =>
                have hno : wrOk c = false := wrOk_no hc (by rw [h4]; simp)
                refine LW.move wn rfl rfl ?_
                refine LW.lss_lit h0 wn rfl rfl rfl ?_
                refine LW.move wn rfl rfl ?_
                refine LW.move (ws 25 rfl rfl) rfl rfl ?_
                refine LW.gtr_lit h1 (ws 25 rfl rfl) rfl rfl rfl ?_
                refine LW.pick_f wn rfl rfl rfl ?_
                refine LW.move wn rfl rfl ?_
                refine LW.move (ws 29 rfl rfl) rfl rfl ?_
                refine LW.eql_lit h2 (ws 29 rfl rfl) rfl rfl rfl ?_
                refine LW.pick_f wn rfl rfl rfl ?_
                refine LW.move wn rfl rfl ?_
                refine LW.move (ws 33 rfl rfl) rfl rfl ?_
                refine LW.eql_lit h3 (ws 33 rfl rfl) rfl rfl rfl ?_
                refine LW.pick_f wn rfl rfl rfl ?_
                refine LW.move wn rfl rfl ?_
                refine LW.move (ws 37 rfl rfl) rfl rfl ?_
                refine LW.eql_lit h4 (ws 37 rfl rfl) rfl rfl rfl ?_
                refine LW.pick_f wn rfl rfl rfl ?_
                refine LW.nil ?_
                refine EW.seq_n ?_
                refine CW.cond_t rfl ?_
                refine CW.seq ?_
                refine CW.region ?_
                refine LW.assign wn rfl rfl ?_
                refine LW.nil ?_
                refine EW.seq_n ?_
                refine CW.ret ?_
                refine EW.block_r ?_
                refine EW.join_r ?_
                refine EW.block_r ?_
                refine EW.seq_r ?_
                exact hbad rfl hno
              | false =>
                have ⟨hlo, hyes⟩ := wrOk_yes hc h0 h1 h2 h3 h4
                refine LW.move wn rfl rfl ?_
                refine LW.lss_lit h0 wn rfl rfl rfl ?_
                refine LW.move wn rfl rfl ?_
                refine LW.move (ws 25 rfl rfl) rfl rfl ?_
                refine LW.gtr_lit h1 (ws 25 rfl rfl) rfl rfl rfl ?_
                refine LW.pick_f wn rfl rfl rfl ?_
                refine LW.move wn rfl rfl ?_
                refine LW.move (ws 29 rfl rfl) rfl rfl ?_
                refine LW.eql_lit h2 (ws 29 rfl rfl) rfl rfl rfl ?_
                refine LW.pick_f wn rfl rfl rfl ?_
                refine LW.move wn rfl rfl ?_
                refine LW.move (ws 33 rfl rfl) rfl rfl ?_
                refine LW.eql_lit h3 (ws 33 rfl rfl) rfl rfl rfl ?_
                refine LW.pick_f wn rfl rfl rfl ?_
                refine LW.move wn rfl rfl ?_
                refine LW.move (ws 37 rfl rfl) rfl rfl ?_
                refine LW.eql_lit h4 (ws 37 rfl rfl) rfl rfl rfl ?_
                refine LW.pick_f wn rfl rfl rfl ?_
                refine LW.nil ?_
                refine EW.seq_n ?_
                refine CW.cond_f rfl ?_
                refine CW.skip ?_
                refine EW.block_n ?_
                refine EW.sub (G := [(19, .pointer (some ⟨w2.heap.size, 0, none⟩))]) ⟨rfl, trivial⟩ ?_
                refine EW.join_n ⟨rem.length, by simp, k + 1, rem, rfl, hk', rfl, ?_, ?_⟩
                · rw [decode_lo hc hlo]
                · rw [← hall, List.all_cons, hyes, Bool.true_and]
def con_scope_written : Con Tryd.prog := ⟨34, [.d .str], [.d .bool], ⟨Tryd.f34, Tryd.func34, by kernel_rfl, by kernel_rfl⟩, m_scope_written, by
  intro a r h k kp gp lab w vs t _ _ hk hargs
  match vs, hargs with
  | [v1], hargs =>
    obtain ⟨h1, _⟩ := hargs
    obtain rfl := Dat.str h1
    have h : m_scope_written a.1 = some r := h
    unfold m_scope_written at h
    cases h
    refine (c_written a.1 t).mono ?_
    rintro e w' ⟨rfl, hs⟩
    exact ⟨lab, [_], rfl, hs, Dat.ofBool _, trivial⟩⟩

def t_scope_parse : Tab Tryd.prog := ⟨tes, ses, fes, bes, [con_strings_IndexByte, con_strings_HasSuffix, con_scope_written], [], fds, [], qes, ges, mes, []⟩
def h_scope_parse : Hint := (.s .n (.s .n (.s .n (.j ⟨[.d 0 .str, .b 2 49 P_api_Permit, .b 4 49 P_api_Permit], [2, 4]⟩ true (.b (.l .g ⟨[.d 0 .str, .d 5 (.int .i64), .b 2 49 P_api_Permit, .b 4 49 P_api_Permit], [2, 4]⟩ (.s (.j ⟨[.d 14 .bool], [0, 2, 4, 5]⟩ false .n (.c .n .n)) (.b (.s .n (.s (.s .n (.c (.s .n .n) .n)) (.s .n (.s .n .n)))))))) (.s (.j ⟨[.d 39 .bool], [0, 2, 4]⟩ false .n (.c (.s .n .n) .n)) (.s .n (.j ⟨[.b 4 49 P_api_Permit], [2, 4]⟩ false (.s .n (.c .n .n)) (.s .n .n))))))))

def con_scope_parse : Con Tryd.prog := ⟨41, [.d .str], [.d P_api_Permit, .d .bool], ⟨Tryd.f41, Tryd.func41, by kernel_rfl, by kernel_rfl⟩, m_scope_parse, fun a r h => mkM_ok (T := t_scope_parse) (N := 60) (own := []) (rng := []) (c := (codeOf Tryd.f41)) (h := h_scope_parse) (qs := [.cell 2 49, .tmp 3]) kMix Tryd.func41 (by kernel_rfl) (by kernel_rfl) (by kernel_rfl) (by kernel_rfl) a r (Eq.trans (by kernel_rfl) h)⟩
def t_scope_Parse : Tab Tryd.prog := ⟨tes, ses, fes, bes, [con_strings_Split, con_scope_parse], [], fds, [], qes, ges, mes, []⟩
def h_scope_Parse : Hint := (.s .n (.s (.s .n (.c (.s .n .n) .n)) (.s .n (.s (.s .n (.b (.l (.a 14 13) ⟨[.o 4 49 P_api_Permit], [12, 13]⟩ (.s .n (.s (.c .n .n) (.s (.b (.s .n (.s .n (.s (.s .n (.c (.s .n .n) .n)) .n)))) .n)))))) (.s (.s .n (.c (.s .n .n) .n)) (.s .n .n))))))

def con_scope_Parse : Con Tryd.prog := ⟨21, [.d .str], [.d (.sl P_api_Permit), .d (.int .i64)], ⟨Tryd.f21, Tryd.func21, by kernel_rfl, by kernel_rfl⟩, m_scope_Parse, fun a r h => mkM_ok (T := t_scope_Parse) (N := 34) (own := [28]) (rng := [13]) (c := (codeOf Tryd.f21)) (h := h_scope_Parse) (qs := [.tmp 2, .tmp 3]) kMix Tryd.func21 (by kernel_rfl) (by kernel_rfl) (by kernel_rfl) (by kernel_rfl) a r (Eq.trans (by kernel_rfl) h)⟩
def t_scope_Valid : Tab Tryd.prog := ⟨tes, ses, fes, bes, [con_scope_written], [], fds, [], qes, ges, mes, []⟩
def h_scope_Valid : Hint := (.s .n (.s (.s .n (.c (.s .n .n) .n)) (.s (.s .n (.b (.l (.a 10 9) ⟨[], [8, 9]⟩ (.s .n (.s (.c .n .n) (.s (.b (.s .n (.j ⟨[.d 27 .bool], [8, 9, 10]⟩ false .n (.c (.s .n .n) .n)))) .n)))))) (.s .n .n))))

def con_scope_Valid : Con Tryd.prog := ⟨12, [.d (.sl P_api_Permit)], [.d .bool], ⟨Tryd.f12, Tryd.func12, by kernel_rfl, by kernel_rfl⟩, m_scope_Valid, fun a r h => mkM_ok (T := t_scope_Valid) (N := 29) (own := []) (rng := [9]) (c := (codeOf Tryd.f12)) (h := h_scope_Valid) (qs := [.tmp 2]) kMix Tryd.func12 (by kernel_rfl) (by kernel_rfl) (by kernel_rfl) (by kernel_rfl) a r (Eq.trans (by kernel_rfl) h)⟩

def con_strings_HasPrefix : Con Tryd.prog := ⟨62, [.d .str, .d .str], [.d .bool], ⟨Tryd.f62, Tryd.func62, by kernel_rfl, by kernel_rfl⟩, m_strings_HasPrefix, by
  intro a r h k kp gp lab w vs t _ _ hk hargs
  match vs, hargs with
  | [v1, v2], hargs =>
    obtain ⟨h1, h2, _⟩ := hargs
    obtain rfl := Dat.str h1
    obtain rfl := Dat.str h2
    have h : some (Lib.hasPrefix a.1 a.2.1) = some r := h
    cases h
    refine (Tryd.strings_HasPrefix ⟨List.toArray (α := UInt8) a.1⟩ ⟨List.toArray (α := UInt8) a.2.1⟩ w).mono ?_
    rintro e w' ⟨rfl, rfl⟩
    exact ⟨lab, [_], rfl, Stp.refl t, Dat.ofBool _, trivial⟩⟩

def t_scope_below : Tab Tryd.prog := ⟨tes, ses, fes, bes, [con_strings_HasPrefix], [], fds, [], qes, ges, mes, []⟩
def h_scope_below : Hint := (.s .n (.s .n .n))

def con_scope_below : Con Tryd.prog := ⟨51, [.d .str, .d .str], [.d .bool], ⟨Tryd.f51, Tryd.func51, by kernel_rfl, by kernel_rfl⟩, m_scope_below, fun a r h => mkM_ok (T := t_scope_below) (N := 9) (own := []) (rng := []) (c := (codeOf Tryd.f51)) (h := h_scope_below) (qs := [.tmp 4]) kMix Tryd.func51 (by kernel_rfl) (by kernel_rfl) (by kernel_rfl) (by kernel_rfl) a r (Eq.trans (by kernel_rfl) h)⟩
def t_scope_covers : Tab Tryd.prog := ⟨tes, ses, fes, bes, [con_scope_below], [], fds, [], qes, ges, mes, []⟩
def h_scope_covers : Hint := (.s .n (.j ⟨[.d 4 .bool], []⟩ false .n .n))

def con_scope_covers : Con Tryd.prog := ⟨36, [.d P_api_Permit, .d .str], [.d .bool], ⟨Tryd.f36, Tryd.func36, by kernel_rfl, by kernel_rfl⟩, m_scope_covers, fun a r h => mkM_ok (T := t_scope_covers) (N := 19) (own := []) (rng := []) (c := (codeOf Tryd.f36)) (h := h_scope_covers) (qs := [.tmp 4]) kMix Tryd.func36 (by kernel_rfl) (by kernel_rfl) (by kernel_rfl) (by kernel_rfl) a r (Eq.trans (by kernel_rfl) h)⟩
def t_scope_Permits : Tab Tryd.prog := ⟨tes, ses, fes, bes, [con_scope_Valid, con_scope_covers], [], fds, [], qes, ges, mes, []⟩
def h_scope_Permits : Hint := (.s .n (.s (.j ⟨[.d 19 .bool], [0, 1, 2]⟩ false .n (.c (.s .n .n) .n)) (.s (.s .n (.b (.l (.a 22 21) ⟨[], [1, 2, 20, 21]⟩ (.s .n (.s (.c .n .n) (.s (.b (.s .n (.j ⟨[.d 38 .bool], [1, 2, 20, 21, 22]⟩ false .n (.c (.s .n .n) .n)))) .n)))))) (.s .n .n))))

def con_scope_Permits : Con Tryd.prog := ⟨16, [.d (.sl P_api_Permit), .d .str, .d (.int .i64)], [.d .bool], ⟨Tryd.f16, Tryd.func16, by kernel_rfl, by kernel_rfl⟩, m_scope_Permits, fun a r h => mkM_ok (T := t_scope_Permits) (N := 40) (own := []) (rng := [21]) (c := (codeOf Tryd.f16)) (h := h_scope_Permits) (qs := [.tmp 6]) kMix Tryd.func16 (by kernel_rfl) (by kernel_rfl) (by kernel_rfl) (by kernel_rfl) a r (Eq.trans (by kernel_rfl) h)⟩

theorem Below.stp {lab : Lab} {w w' : World} (t : Top lab w) (h : Below w.heap.size w w') : Stp [] lab w lab w' :=
  ⟨h.os, h.tape, h.output, h.size, fun b hb _ => h.block b hb, fun _ _ _ => rfl, fun b hb => t b (Nat.le_trans h.size hb)⟩
theorem spot_none {w : World} {a : Addr} {v : Value} (h : w.cell? a = some v) : a = ⟨a.block, a.off, none⟩ := by
  obtain ⟨b, o, sp⟩ := a
  unfold World.cell? at h
  cases sp with
  | none => rfl
  | some s => split at h <;> simp at h
theorem c_strings_Join {lab : Lab} {w : World} {oa : Option Addr} {c : Nat} (xs : List (List UInt8)) (p : List UInt8) (s : SL Rep.str lab w oa c xs) (hb1 : (Lib.join xs p).length ≤ 140737488355328) (hb2 : xs.length ≤ 140737488355328) :
    Calls Tryd.prog 39 [.slice oa xs.length c, strV p].toArray w fun e w' => e = .returned (strV (Lib.join xs p)) ∧ Below w.heap.size w w' := by
  cases xs with
  | nil =>
    refine Calls.mono (Tryd.strings_Join_none oa c ⟨p.toArray⟩ w) ?_
    rintro e w' ⟨rfl, rfl⟩
    exact ⟨rfl, Below.refl _ _⟩
  | cons x l =>
    obtain ⟨ad, cs, h3, h4, h5⟩ := s.2.2 0 x rfl
    have h4 : cs = [strV x] := h4
    subst h4
    have h6 := (h5 0 (strV x) rfl).2
    have e0 : (ad.add (0 * Rep.str.sz)).add 0 = ad := by rw [Nat.zero_mul, add_zero', add_zero']
    rw [e0] at h6
    have e1 := spot_none h6
    rw [h3, e1]
    have hm : ((x :: l).map (fun z => (⟨z.toArray⟩ : ByteArray))).map (·.data.toList) = x :: l := by
      rw [List.map_map]
      have : ((fun z : ByteArray => z.data.toList) ∘ fun z : List UInt8 => (⟨z.toArray⟩ : ByteArray)) = id := by funext z; rfl
      rw [this, List.map_id]
    have hl : ((x :: l).map (fun z => (⟨z.toArray⟩ : ByteArray))).length = (x :: l).length := List.length_map _
    have key := Tryd.strings_Join ad.block ad.off c ((x :: l).map fun z => ⟨z.toArray⟩) ⟨p.toArray⟩ w (fun j z hz => by
      rw [List.getElem?_map] at hz
      obtain ⟨y, hy, rfl⟩ := Option.map_eq_some_iff.1 hz
      obtain ⟨ad', cs', h3', h4', h5'⟩ := s.2.2 j y hy
      have h4' : cs' = [strV y] := h4'
      subst h4'
      rw [h3] at h3'; cases h3'
      have h7 := (h5' 0 (strV y) rfl).2
      have e2 : (ad.add (j * Rep.str.sz)).add 0 = ⟨ad.block, ad.off + j, none⟩ := by
        rw [add_zero', show j * Rep.str.sz = j from Nat.mul_one j]
        rw [e1]; exact add_lit0 _ _ _
      rw [e2] at h7
      exact h7) (cell_lt h6) (by rw [hl]; exact hb2) (by rw [hl]; exact s.1) (by rw [hm]; exact hb1)
    rw [hl, hm] at key
    refine key.mono ?_
    rintro e w' ⟨rfl, hbl⟩
    exact ⟨rfl, hbl⟩
def con_strings_Join : Con Tryd.prog := ⟨39, [.d (.sl .str), .d .str], [.d .str], ⟨Tryd.f39, Tryd.func39, by kernel_rfl, by kernel_rfl⟩, m_strings_Join, by
  intro a r h k kp gp lab w vs t _ _ hk hargs
  match vs, hargs with
  | [v1, v2], hargs =>
    obtain ⟨h1, h2, _⟩ := hargs
    obtain ⟨oa, c, rfl, s⟩ := Dat.sl h1
    obtain rfl := Dat.str h2
    have h : m_strings_Join a.1 a.2.1 = some r := h
    unfold m_strings_Join at h
    cases hb : Nat.ble (Lib.join a.1 a.2.1).length 140737488355328 && Nat.ble (List.length (α := List UInt8) a.1) 140737488355328 with
    | false => rw [hb] at h; cases h
    | true =>
      rw [hb] at h
      cases h
      rw [Bool.and_eq_true] at hb
      refine (c_strings_Join a.1 a.2.1 s (Nat.le_of_ble_eq_true hb.1) (Nat.le_of_ble_eq_true hb.2)).mono ?_
      rintro e w' ⟨rfl, hbl⟩
      exact ⟨lab, [_], rfl, Below.stp t hbl, Dat.ofStr _, trivial⟩⟩

def t_scope_Print : Tab Tryd.prog := ⟨tes, ses, fes, bes, [con_scope_Valid, con_strings_Join], [], fds, [], qes, ges, mes, []⟩
def h_scope_Print : Hint := (.s .n (.s (.s .n (.c (.s .n .n) .n)) (.s .n (.j ⟨[.o 3 9 .str], []⟩ false (.s .n (.b (.l (.a 13 12) ⟨[.o 3 9 .str], [11, 12]⟩ (.s .n (.s (.c .n .n) (.j ⟨[.o 3 9 .str], [11, 12, 13]⟩ false (.b (.s .n (.s .n (.j ⟨[.d 6 .str], [3, 5, 11, 12, 13]⟩ false (.s .n (.b (.l .g ⟨[.d 6 .str, .d 7 (.int .i64)], [3, 5, 11, 12, 13]⟩ (.s (.s .n (.c .n .n)) (.j ⟨[.d 6 .str], [3, 5, 7, 11, 12, 13]⟩ false (.b (.s .n (.c .n .n))) .n))))) (.s .n (.j ⟨[.d 6 .str], [3, 11, 12, 13]⟩ false (.s .n (.c .n .n)) .n)))))) .n)))))) (.s .n .n)))))

def con_scope_Print : Con Tryd.prog := ⟨19, [.d (.sl P_api_Permit)], [.d .str], ⟨Tryd.f19, Tryd.func19, by kernel_rfl, by kernel_rfl⟩, m_scope_Print, fun a r h => mkM_ok (T := t_scope_Print) (N := 50) (own := [46]) (rng := [12]) (c := (codeOf Tryd.f19)) (h := h_scope_Print) (qs := [.tmp 2]) kMix Tryd.func19 (by kernel_rfl) (by kernel_rfl) (by kernel_rfl) (by kernel_rfl) a r (Eq.trans (by kernel_rfl) h)⟩
def t_coreseclaw39_awake : Tab Tryd.prog := ⟨tes, ses, fes, bes, [con_scope_Parse, con_scope_Permits, con_scope_Print], [], fds, [], qes, ges, mes, []⟩
def h_coreseclaw39_awake : Hint := (.s .n (.s .n (.j ⟨[.d 0 .bool], []⟩ false .n .n)))

def con_coreseclaw39_awake : Con Tryd.prog := ⟨9, [], [.d .bool], ⟨Tryd.f9, Tryd.func9, by kernel_rfl, by kernel_rfl⟩, m_coreseclaw39_awake, fun a r h => mkM_ok (T := t_coreseclaw39_awake) (N := 28) (own := []) (rng := []) (c := (codeOf Tryd.f9)) (h := h_coreseclaw39_awake) (qs := [.tmp 0]) kMix Tryd.func9 (by kernel_rfl) (by kernel_rfl) (by kernel_rfl) (by kernel_rfl) a r (Eq.trans (by kernel_rfl) h)⟩
def t_coresecmake_New : Tab Tryd.prog := ⟨tes, ses, fes, bes, [], [], fds, [], qes, ges, mes, []⟩
def h_coresecmake_New : Hint := (.s .n (.s .n .n))

def con_coresecmake_New : Con Tryd.prog := ⟨11, [.d (.sl (.int .i64))], [.p 53 P_coresecmake_Deck], ⟨Tryd.f11, Tryd.func11, by kernel_rfl, by kernel_rfl⟩, m_coresecmake_New, fun a r h => mkM_ok (T := t_coresecmake_New) (N := 6) (own := []) (rng := []) (c := (codeOf Tryd.f11)) (h := h_coresecmake_New) (qs := [.tmp 2]) kMix Tryd.func11 (by kernel_rfl) (by kernel_rfl) (by kernel_rfl) (by kernel_rfl) a r (Eq.trans (by kernel_rfl) h)⟩
def t_coresecmake_Mod : Tab Tryd.prog := ⟨tes, ses, fes, bes, [], [], fds, [], qes, ges, mes, []⟩
def h_coresecmake_Mod : Hint := (.s .n (.s .n (.j ⟨[.d 5 (.int .i64)], []⟩ false (.s .n (.c .n .n)) (.s .n .n))))

def con_coresecmake_Mod : Con Tryd.prog := ⟨15, [.d (.int .i64), .d (.int .i64)], [.d (.int .i64)], ⟨Tryd.f15, Tryd.func15, by kernel_rfl, by kernel_rfl⟩, m_coresecmake_Mod, fun a r h => mkM_ok (T := t_coresecmake_Mod) (N := 15) (own := []) (rng := []) (c := (codeOf Tryd.f15)) (h := h_coresecmake_Mod) (qs := [.tmp 4]) kMix Tryd.func15 (by kernel_rfl) (by kernel_rfl) (by kernel_rfl) (by kernel_rfl) a r (Eq.trans (by kernel_rfl) h)⟩
def t_coresecmake_Deck_Next : Tab Tryd.prog := ⟨tes, ses, fes, bes, [con_coresecmake_Mod], [], fds, [], qes, ges, mes, []⟩
def h_coresecmake_Deck_Next : Hint := (.s .n (.s (.s .n (.c (.s .n .n) .n)) (.s .n (.s .n .n))))

def con_coresecmake_Deck_Next : Con Tryd.prog := ⟨32, [.p 53 P_coresecmake_Deck, .d (.int .i64)], [.d (.int .i64)], ⟨Tryd.f32, Tryd.func32, by kernel_rfl, by kernel_rfl⟩, m_coresecmake_Deck_Next, fun a r h => mkM_ok (T := t_coresecmake_Deck_Next) (N := 35) (own := []) (rng := []) (c := (codeOf Tryd.f32)) (h := h_coresecmake_Deck_Next) (qs := [.tmp 4]) kMix Tryd.func32 (by kernel_rfl) (by kernel_rfl) (by kernel_rfl) (by kernel_rfl) a r (Eq.trans (by kernel_rfl) h)⟩
def t_coresecmake2_Path : Tab Tryd.prog := ⟨tes, ses, fes, bes, [con_coresecmake_Deck_Next], [], fds, [], qes, ges, mes, []⟩
def h_coresecmake2_Path : Hint := (.s .n (.s .n .n))

def con_coresecmake2_Path : Con Tryd.prog := ⟨33, [.p 53 P_coresecmake_Deck], [.d .str], ⟨Tryd.f33, Tryd.func33, by kernel_rfl, by kernel_rfl⟩, m_coresecmake2_Path, fun a r h => mkM_ok (T := t_coresecmake2_Path) (N := 8) (own := []) (rng := []) (c := (codeOf Tryd.f33)) (h := h_coresecmake2_Path) (qs := [.tmp 2]) kMix Tryd.func33 (by kernel_rfl) (by kernel_rfl) (by kernel_rfl) (by kernel_rfl) a r (Eq.trans (by kernel_rfl) h)⟩
def t_coresecmake2_Scope : Tab Tryd.prog := ⟨tes, ses, fes, bes, [con_coresecmake_Deck_Next, con_coresecmake2_Path], [], fds, [], qes, ges, mes, []⟩
def h_coresecmake2_Scope : Hint := (.s .n (.s .n (.s (.s .n (.b (.l .g ⟨[.o 3 49 P_api_Permit, .d 4 (.int .i64), .b 0 53 P_coresecmake_Deck], [0]⟩ (.s (.s .n (.c .n .n)) (.s (.b .n) .n))))) (.s .n .n))))

def con_coresecmake2_Scope : Con Tryd.prog := ⟨10, [.p 53 P_coresecmake_Deck], [.d (.sl P_api_Permit)], ⟨Tryd.f10, Tryd.func10, by kernel_rfl, by kernel_rfl⟩, m_coresecmake2_Scope, fun a r h => mkM_ok (T := t_coresecmake2_Scope) (N := 29) (own := [27]) (rng := []) (c := (codeOf Tryd.f10)) (h := h_coresecmake2_Scope) (qs := [.tmp 2]) kMix Tryd.func10 (by kernel_rfl) (by kernel_rfl) (by kernel_rfl) (by kernel_rfl) a r (Eq.trans (by kernel_rfl) h)⟩
def t_scope_includes : Tab Tryd.prog := ⟨tes, ses, fes, bes, [con_scope_below, con_scope_covers], [], fds, [], qes, ges, mes, []⟩
def h_scope_includes : Hint := (.s .n (.s (.s .n (.c (.j ⟨[.d 4 .bool], []⟩ false .n .n) .n)) (.s .n .n)))

def con_scope_includes : Con Tryd.prog := ⟨43, [.d P_api_Permit, .d P_api_Permit], [.d .bool], ⟨Tryd.f43, Tryd.func43, by kernel_rfl, by kernel_rfl⟩, m_scope_includes, fun a r h => mkM_ok (T := t_scope_includes) (N := 27) (own := []) (rng := []) (c := (codeOf Tryd.f43)) (h := h_scope_includes) (qs := [.tmp 4]) kMix Tryd.func43 (by kernel_rfl) (by kernel_rfl) (by kernel_rfl) (by kernel_rfl) a r (Eq.trans (by kernel_rfl) h)⟩
def t_scope_Within : Tab Tryd.prog := ⟨tes, ses, fes, bes, [con_scope_Valid, con_scope_includes], [], fds, [], qes, ges, mes, []⟩
def h_scope_Within : Hint := (.s .n (.s (.j ⟨[.d 17 .bool], [0, 1]⟩ false .n (.c (.s .n .n) .n)) (.s (.s .n (.b (.l (.a 20 19) ⟨[], [1, 18, 19]⟩ (.s .n (.s (.c .n .n) (.s (.b (.s .n (.s .n (.s (.s .n (.b (.l (.a 28 27) ⟨[.d 7 (.int .i64)], [1, 6, 18, 19, 20, 26, 27]⟩ (.s .n (.s (.c .n .n) (.j ⟨[.d 7 (.int .i64)], [1, 6, 18, 19, 20, 26, 27, 28]⟩ false (.b (.s .n (.s .n (.c .n .n)))) .n)))))) (.s .n (.c (.s .n .n) .n)))))) .n)))))) (.s .n .n))))

def con_scope_Within : Con Tryd.prog := ⟨24, [.d (.sl P_api_Permit), .d (.sl P_api_Permit)], [.d .bool], ⟨Tryd.f24, Tryd.func24, by kernel_rfl, by kernel_rfl⟩, m_scope_Within, fun a r h => mkM_ok (T := t_scope_Within) (N := 43) (own := []) (rng := [19, 27]) (c := (codeOf Tryd.f24)) (h := h_scope_Within) (qs := [.tmp 4]) kMix Tryd.func24 (by kernel_rfl) (by kernel_rfl) (by kernel_rfl) (by kernel_rfl) a r (Eq.trans (by kernel_rfl) h)⟩
def t_scope_compare : Tab Tryd.prog := ⟨tes, ses, fes, bes, [], [], fds, [], qes, ges, mes, []⟩
def h_scope_compare : Hint := (.s .n (.s (.b (.s .n (.c (.s .n .n) (.s .n (.c (.s .n .n) (.s .n (.c (.s .n .n) (.s .n (.c (.s .n .n) .n))))))))) (.s .n .n)))

def con_scope_compare : Con Tryd.prog := ⟨60, [.d P_api_Permit, .d P_api_Permit], [.d (.int .i64)], ⟨Tryd.f60, Tryd.func60, by kernel_rfl, by kernel_rfl⟩, m_scope_compare, fun a r h => mkM_ok (T := t_scope_compare) (N := 26) (own := []) (rng := []) (c := (codeOf Tryd.f60)) (h := h_scope_compare) (qs := [.tmp 4]) kMix Tryd.func60 (by kernel_rfl) (by kernel_rfl) (by kernel_rfl) (by kernel_rfl) a r (Eq.trans (by kernel_rfl) h)⟩
def t_scope_normal_1 : Tab Tryd.prog := ⟨tes, ses, fes, bes, [con_scope_compare], [], fds, [], qes, ges, mes, []⟩
def h_scope_normal_1 : Hint := (.s .n (.s .n .n))

def con_scope_normal_1 : Con Tryd.prog := ⟨59, [.d (.int .i64), .d (.int .i64), .d (.cp (.sl P_api_Permit))], [.d .bool], ⟨Tryd.f59, Tryd.func59, by kernel_rfl, by kernel_rfl⟩, m_scope_normal_1, fun a r h => mkM_ok (T := t_scope_normal_1) (N := 16) (own := []) (rng := []) (c := (codeOf Tryd.f59)) (h := h_scope_normal_1) (qs := [.tmp 5]) kMix Tryd.func59 (by kernel_rfl) (by kernel_rfl) (by kernel_rfl) (by kernel_rfl) a r (Eq.trans (by kernel_rfl) h)⟩

theorem cmp_some (a b : S_api_Permit) : ∃ c, m_scope_compare a b = some c := by
  exact ⟨_, cmp_val a b⟩
theorem less_sort {xs : List S_api_Permit} {i j : Nat} {x y : S_api_Permit} (hx : xs[i]? = some x) (hy : xs[j]? = some y) : m_scope_normal_1 (i : Int) (j : Int) (some xs) = some (lt_sort x y) := by
  have hi : idx xs (i : Int) = some x := by unfold idx; rw [if_pos (by omega)]; simpa using hx
  have hj : idx xs (j : Int) = some y := by unfold idx; rw [if_pos (by omega)]; simpa using hy
  obtain ⟨c, hc⟩ := cmp_some x y
  show bnd (idx xs (i : Int)) _ = _
  rw [hi]
  show bnd (idx xs (j : Int)) _ = _
  rw [hj]
  show bnd (m_scope_compare x y) _ = _
  unfold lt_sort
  rw [hc]; rfl
theorem lessIs_sort : LessIs Tryd.prog P_api_Permit 59 lt_sort := by
  intro lab W G oa c xs i j x y hx hy t gl h1 h2 hat hsl
  have hm := less_sort hx hy
  have hok := con_scope_normal_1.ok ((i : Int), ((j : Int), (some xs, ()))) (lt_sort x y) hm 5 5 0 lab W [.int .i64 i, .int .i64 j, .pointer (some ⟨G, 0, none⟩)] t gl (fun h => by cases h) (by decide) ⟨Dat.ofInt (k := .i64) _, Dat.ofInt (k := .i64) _, ⟨[_], ⟨⟨G, 0, none⟩, [_], rfl, hat, ⟨oa, c, rfl, hsl⟩⟩, rfl⟩, trivial⟩
  refine hok.mono ?_
  rintro e w' ⟨lab2, us, rfl, hs, hres⟩
  match us, hres with
  | [v], hres =>
    obtain rfl := Dat.bool hres.1
    exact ⟨rfl, lab2, hs⟩
noncomputable def so_T : TypeInfo := (Tryd.prog.info? 22).get (by kernel_rfl)
noncomputable def so_E : TypeInfo := (Tryd.prog.info? 49).get (by kernel_rfl)
theorem so_K (n : Nat) (h2 : 2 ≤ n) : Lib.swapperK n so_E 25 = 9 := by
  have a : so_E.hasPointers = true := by kernel_rfl
  have b : (so_E.bytes == 8) = false := by kernel_rfl
  have c : (n == 0) = false := by simp; omega
  have d : (n == 1) = false := by simp; omega
  simp [Lib.swapperK, a, b, c, d]
theorem so_f (n : Nat) : ∃ f, Tryd.prog.funcs.findIdx? (·.name == "internal/reflectlite" ++ ".Swapper$" ++ toString (Lib.swapperK n so_E 25)) = some f ∧ (2 ≤ n → ∃ gS, ∀ args W, (callFunc f args).run Tryd.prog W = ((Extern.ReflectliteSwapper.swap gS args).run Tryd.prog W).andThen fun v w' => .ok (.value v) w') := by
  match n with
  | 0 => exact ⟨82, by kernel_rfl, fun h => by omega⟩
  | 1 => exact ⟨83, by kernel_rfl, fun h => by omega⟩
  | n + 2 => exact ⟨90, by rw [so_K _ (by omega)]; kernel_rfl, fun _ => ⟨false, fun args W => run_callFunc_extern Tryd.func90 (by kernel_rfl) (by kernel_rfl) (by kernel_rfl) (e := Extern.ReflectliteSwapper.swap false) (by kernel_rfl) args W⟩⟩
noncomputable def so_sort : SoE Tryd.prog := ⟨58, 59, 22, 49, P_api_Permit, rel_sort, by kernel_rfl, ⟨Tryd.f58, Tryd.func58, by kernel_rfl, by kernel_rfl⟩, fun hl tp gl hk o hc hGk hG0 => by
  have : Inhabited (den P_api_Permit) := ⟨([], (false, (0 : Int)))⟩
  have h := sort_ok Tryd.laysGt8 (t := P_api_Permit) (T := 22) (e := 49) (E := 49) (i := so_T) (ie := so_E) (by kernel_rfl) (by kernel_rfl) (by kernel_rfl) (by kernel_rfl) (ke := 25) (fun _ => by kernel_rfl) (by kernel_rfl) (fun _ => by kernel_rfl) swo_sort (clo := 59) (enters_of Tryd.func59 (by kernel_rfl) rfl) so_f lessIs_sort hl tp gl hk o hc hGk hG0
  refine h.mono ?_
  rintro e w' ⟨rfl, lab', ys, h1, h2, h3⟩
  exact ⟨rfl, lab', ys, h1, h1.1.length_eq, h2, h3⟩⟩

def t_scope_normal : Tab Tryd.prog := ⟨tes, ses, fes, bes, [con_scope_compare, con_scope_includes], [1], fds, [], qes, ges, mes, [so_sort]⟩
def h_scope_normal : Hint := (.s .n (.s .n (.s .x (.s .n (.s (.s .n (.b (.l (.a 20 19) ⟨[.o 3 49 P_api_Permit], [18, 19]⟩ (.s .n (.s (.c .n .n) (.j ⟨[.o 3 49 P_api_Permit], [18, 19, 20]⟩ false (.b (.s .n (.s .n (.j ⟨[.d 37 .bool], [3, 5, 6, 18, 19, 20]⟩ false .n (.c .n .n))))) .n)))))) (.s .n (.s (.s .n (.b (.l (.n 56 55) ⟨[.o 7 49 P_api_Permit], [3, 54, 55]⟩ (.s .n (.s (.c .n .n) (.j ⟨[.o 7 49 P_api_Permit], [3, 54, 55, 56]⟩ false (.b (.s .n (.s (.s .n (.b (.l (.n 62 61) ⟨[.b 9 49 P_api_Permit], [3, 7, 9, 54, 55, 56, 60, 61]⟩ (.s .n (.s (.c .n .n) (.j ⟨[.b 9 49 P_api_Permit], [3, 7, 9, 54, 55, 56, 60, 61, 62]⟩ false (.b (.s .n (.j ⟨[.d 74 .bool], [3, 7, 9, 11, 54, 55, 56, 60, 61, 62]⟩ false .n (.c .n .n)))) .n)))))) (.s .n (.c .n .n))))) .n)))))) (.s .n .n))))))))

def con_scope_normal : Con Tryd.prog := ⟨44, [.d (.sl P_api_Permit)], [.d (.sl P_api_Permit)], ⟨Tryd.f44, Tryd.func44, by kernel_rfl, by kernel_rfl⟩, m_scope_normal, fun a r h => mkM_ok (T := t_scope_normal) (N := 91) (own := [13, 52, 88]) (rng := [19]) (c := (codeOf Tryd.f44)) (h := h_scope_normal) (qs := [.tmp 2]) kMix Tryd.func44 (by kernel_rfl) (by kernel_rfl) (by kernel_rfl) (by kernel_rfl) a r (Eq.trans (by kernel_rfl) h)⟩
def t_scope_Normal : Tab Tryd.prog := ⟨tes, ses, fes, bes, [con_scope_Valid, con_scope_normal], [], fds, [], qes, ges, mes, []⟩
def h_scope_Normal : Hint := (.s .n (.s (.s .n (.c (.s .n .n) .n)) (.s .n .n)))

def con_scope_Normal : Con Tryd.prog := ⟨25, [.d (.sl P_api_Permit)], [.d (.sl P_api_Permit)], ⟨Tryd.f25, Tryd.func25, by kernel_rfl, by kernel_rfl⟩, m_scope_Normal, fun a r h => mkM_ok (T := t_scope_Normal) (N := 8) (own := []) (rng := []) (c := (codeOf Tryd.f25)) (h := h_scope_Normal) (qs := [.tmp 2]) kMix Tryd.func25 (by kernel_rfl) (by kernel_rfl) (by kernel_rfl) (by kernel_rfl) a r (Eq.trans (by kernel_rfl) h)⟩
def t_coresecref39_Same : Tab Tryd.prog := ⟨tes, ses, fes, bes, [], [], fds, [], qes, ges, mes, []⟩
def h_coresecref39_Same : Hint := (.s .n (.s (.s .n (.c (.s .n .n) .n)) (.s (.s .n (.b (.l (.n 13 12) ⟨[], [0, 1, 12]⟩ (.s .n (.s (.c .n .n) (.s (.b (.s .n (.s .n (.c (.s .n .n) .n)))) .n)))))) (.s .n .n))))

def con_coresecref39_Same : Con Tryd.prog := ⟨23, [.d (.sl P_api_Permit), .d (.sl P_api_Permit)], [.d .bool], ⟨Tryd.f23, Tryd.func23, by kernel_rfl, by kernel_rfl⟩, m_coresecref39_Same, fun a r h => mkM_ok (T := t_coresecref39_Same) (N := 26) (own := []) (rng := []) (c := (codeOf Tryd.f23)) (h := h_coresecref39_Same) (qs := [.tmp 4]) kMix Tryd.func23 (by kernel_rfl) (by kernel_rfl) (by kernel_rfl) (by kernel_rfl) a r (Eq.trans (by kernel_rfl) h)⟩
def t_coreseclaw39_paths : Tab Tryd.prog := ⟨tes, ses, fes, bes, [], [], fds, [], qes, ges, mes, []⟩
def h_coreseclaw39_paths : Hint := (.s .n (.s .n .n))

def con_coreseclaw39_paths : Con Tryd.prog := ⟨14, [.d .str], [.d (.sl .str)], ⟨Tryd.f14, Tryd.func14, by kernel_rfl, by kernel_rfl⟩, m_coreseclaw39_paths, fun a r h => mkM_ok (T := t_coreseclaw39_paths) (N := 5) (own := []) (rng := []) (c := (codeOf Tryd.f14)) (h := h_coreseclaw39_paths) (qs := [.tmp 2]) kMix Tryd.func14 (by kernel_rfl) (by kernel_rfl) (by kernel_rfl) (by kernel_rfl) a r (Eq.trans (by kernel_rfl) h)⟩
end
end Go.Proofs.YtmnbkcpopfmpdaaDoor
