/-
  The functions compute their models: what the evaluator gives is the model, by the kernel. No condition.
-/
import Derived.Test.YtmnbkcpopfmpdaaDoorMo
import Derived.Test.YtmnbkcpopfmpdaaDoorShelf
namespace Go.Proofs.YtmnbkcpopfmpdaaDoor
open Go.Gk Go.RowKit
noncomputable section
set_option maxRecDepth 100000
def t_coreseclaw39_light : Tab Tryd.prog := ⟨tes, ses, fes, bes, [], [], fds, [], qes, ges⟩
def h_coreseclaw39_light : Hint := (.s .n (.s (.s .n (.b (.l (.a 7 6) ⟨[], [0, 5, 6]⟩ (.s .n (.s (.c .n .n) (.s (.b (.s .n (.s .n (.c (.s .n .n) .n)))) .n)))))) (.s .n .n)))

def con_coreseclaw39_light : Con Tryd.prog := ⟨8, [.d (.sl P_api_Permit)], [.d .bool], ⟨Tryd.f8, Tryd.func8, by kernel_rfl, by kernel_rfl⟩, m_coreseclaw39_light, fun a r h => mkM_ok (T := t_coreseclaw39_light) (N := 19) (own := []) (rng := [6]) (c := (codeOf Tryd.f8)) (h := h_coreseclaw39_light) (qs := [.tmp 2]) kMix Tryd.func8 (by kernel_rfl) (by kernel_rfl) (by kernel_rfl) (by kernel_rfl) a r (Eq.trans (by kernel_rfl) h)⟩

theorem maxLen_cell {lab : Lab} {w : World} (h : GL lab w) : ∃ m, w.cell? ⟨0, 0, none⟩ = some (.int .i64 m) := by
  obtain ⟨w0, ⟨m, hm⟩, hg⟩ := h
  obtain ⟨_, _, h2⟩ := hg 0 (by decide)
  exact ⟨m, by rw [World.cell?_of_block (w := w0) (a := ⟨0, 0, none⟩) h2]; exact hm⟩
theorem c_strings_Split {lab : Lab} {w : World} (t : Top lab w) (gl : GL lab w) (s q : List UInt8) (hq : 0 < q.length) (hs : s.length < 4294967281) : Calls Tryd.prog 40 [strV s, strV q].toArray w fun e w' =>
    ∃ lab' v, e = .returned v ∧ Stp [] lab w lab' w' ∧ Dat (.sl .str) (Lib.split s q) lab' w' v := by
  obtain ⟨m, hm⟩ := maxLen_cell gl
  refine (Tryd.strings_Split ⟨s.toArray⟩ ⟨q.toArray⟩ m w (by rw [strV_size]; exact hs) hm (by rw [strV_size]; exact hq)).mono ?_
  rintro e w' ⟨rfl, rfl⟩
  have hl := Lib.splitB_all ⟨q.toArray⟩ (by rw [strV_size]; exact hq) 0 (Lib.countB ⟨s.toArray⟩ ⟨q.toArray⟩) ⟨s.toArray⟩ rfl
  have hc := Lib.countB_le ⟨q.toArray⟩ (by rw [strV_size]; exact hq) s.length ⟨s.toArray⟩ (by rw [strV_size]; exact Nat.le_refl _)
  rw [strV_size] at hc
  have hd := Lib.splitB_data ⟨q.toArray⟩ 0 (Lib.countB ⟨s.toArray⟩ ⟨q.toArray⟩) ⟨s.toArray⟩
  have hd : (Lib.splitB ⟨q.toArray⟩ 0 (Lib.countB ⟨s.toArray⟩ ⟨q.toArray⟩) ⟨s.toArray⟩).map (·.data.toList) = Lib.split s q := hd
  generalize Lib.splitB ⟨q.toArray⟩ 0 (Lib.countB ⟨s.toArray⟩ ⟨q.toArray⟩) ⟨s.toArray⟩ = cs at hl hd
  have hll : (Lib.split s q).length = cs.length := by rw [← hd, List.length_map]
  refine ⟨relab lab w.heap.size 0, _, rfl, (Ste.alloc t 0 _).stp (.inr rfl), ?_⟩
  rw [← hl, ← hll]
  refine Dat.ofSl (t := .str) ⟨Nat.le_refl _, by unfold maxLen; rw [hll, hl]; omega, fun i x hx => ?_⟩
  have hx : (Lib.split s q)[i]? = some x := hx
  rw [← hd, List.getElem?_map] at hx
  obtain ⟨y, hy, rfl⟩ := Option.map_eq_some_iff.1 hx
  refine ⟨_, [.string y], rfl, rfl, fun j u hu => ⟨?_, ?_⟩⟩
  · rw [block_add]; exact if_pos rfl
  · match j, hu with
    | 0, hu =>
      cases hu
      rw [add_zero', add_lit0, Nat.zero_add, show i * (rep .str).sz = i from Nat.mul_one i, cell_of_row _ w.heap.size _ _ _ (0, 0) (heap_alloc_new w _)]
      simp [hy]
def con_strings_Split : Con Tryd.prog := ⟨40, [.d .str, .d .str], [.d (.sl .str)], ⟨Tryd.f40, Tryd.func40, by kernel_rfl, by kernel_rfl⟩, m_strings_Split, by
  intro a r h k kp gp lab w vs t gl _ hk hargs
  match vs, hargs with
  | [v1, v2], hargs =>
    obtain ⟨h1, h2, _⟩ := hargs
    obtain rfl := Dat.str h1
    obtain rfl := Dat.str h2
    have h : m_strings_Split a.1 a.2.1 = some r := h
    unfold m_strings_Split at h
    cases hb : Nat.blt 0 (List.length (α := UInt8) a.2.1) && Nat.blt (List.length (α := UInt8) a.1) 4294967281 with
    | false => rw [hb] at h; cases h
    | true =>
      rw [hb] at h
      cases h
      rw [Bool.and_eq_true] at hb
      refine (c_strings_Split t gl a.1 a.2.1 (blt_lt hb.1) (blt_lt hb.2)).mono ?_
      rintro e w' ⟨lab', v, rfl, hs, hd⟩
      exact ⟨lab', [v], rfl, hs, hd, trivial⟩⟩


theorem c_strings_IndexByte (s : List UInt8) (c : UInt8) (w : World) : Calls Tryd.prog 56 [strV s, .int .u8 (c.toNat : Int)].toArray w fun e w' => e = .returned (.int .i64 (Lib.indexByte s c)) ∧ w' = w := by
  have h := Tryd.strings_IndexByte ⟨s.toArray⟩ (c.toNat : Int) w
  have e : ((c.toNat : Int)).toNat.toUInt8 = c := by simp
  rw [e] at h
  exact h
def con_strings_IndexByte : Con Tryd.prog := ⟨56, [.d .str, .d (.int .u8)], [.d (.int .i64)], ⟨Tryd.f56, Tryd.func56, by kernel_rfl, by kernel_rfl⟩, m_strings_IndexByte, by
  intro a r h k kp gp lab w vs t _ _ hk hargs
  match vs, hargs with
  | [v1, v2], hargs =>
    obtain ⟨h1, h2, _⟩ := hargs
    obtain rfl := Dat.str h1
    obtain rfl := Dat.int (k := .u8) h2
    have h : some (Lib.indexByte a.1 a.2.1) = some r := h
    cases h
    refine (c_strings_IndexByte a.1 a.2.1 w).mono ?_
    rintro e w' ⟨rfl, rfl⟩
    exact ⟨lab, [_], rfl, Stp.refl t, Dat.ofInt (k := .i64) _, trivial⟩⟩


theorem c_HasSuffix (s p : List UInt8) (hs : s.length ≤ 9223372036854775807) (w : World) : Calls Tryd.prog 57 [strV s, strV p].toArray w fun e w' => e = .returned (.bool (Lib.hasSuffix s p)) ∧ w' = w :=
  Tryd.strings_HasSuffix ⟨s.toArray⟩ ⟨p.toArray⟩ w (by rw [strV_size]; exact hs)
def con_strings_HasSuffix : Con Tryd.prog := ⟨57, [.d .str, .d .str], [.d .bool], ⟨Tryd.f57, Tryd.func57, by kernel_rfl, by kernel_rfl⟩, m_strings_HasSuffix, by
  intro a r h k kp gp lab w vs t _ _ hk hargs
  match vs, hargs with
  | [v1, v2], hargs =>
    obtain ⟨h1, h2, _⟩ := hargs
    obtain rfl := Dat.str h1
    obtain rfl := Dat.str h2
    have h : m_strings_HasSuffix a.1 a.2.1 = some r := h
    unfold m_strings_HasSuffix at h
    cases hb : Nat.ble (List.length (α := UInt8) a.1) 9223372036854775807 with
    | false => rw [hb] at h; cases h
    | true =>
      rw [hb] at h
      cases h
      refine (c_HasSuffix a.1 a.2.1 (Nat.le_of_ble_eq_true hb) w).mono ?_
      rintro e w' ⟨rfl, rfl⟩
      exact ⟨lab, [_], rfl, Stp.refl t, Dat.ofBool _, trivial⟩⟩

theorem kUnd_9 : Tryd.prog.underlying 9 = some .string := by kernel_rfl
section
variable {P : Program} {N : Nat} {ops : Array Oper} {F : List (Nat × Value)} {w : World} {rest : List Oper} {K : Kont}
variable {ty : TypeId} {pos : String} {af : Array Edge} {g : Option (Nat × Bool)} {d : Nat} {x y : Operand} {t t' : TypeId}
theorem LW.gtr_lit {a b : Int} {ik : IntKind} {tv : Bool} (he : decide (b < a) = tv) (hw : Wn ops F g) (hdN : Nat.blt d N = true) (hx : ev F x = some (.int ik a)) (hy : ev F y = some (.int ik b))
    (h : LW P N ops rest ((d, .bool tv) :: F) w K) : LW P N ops (⟨some d, .binOp .gtr t x y t', ty, pos, af, g⟩ :: rest) F w K :=
  LW.gtr (kb := some) (r := tv) (by rw [he]; rfl) hw hdN hx hy (fun c hc => by cases hc; exact h)
theorem LW.eql_lit {a b : Int} {ik : IntKind} {tv : Bool} (he : (a == b) = tv) (hw : Wn ops F g) (hdN : Nat.blt d N = true) (hx : ev F x = some (.int ik a)) (hy : ev F y = some (.int ik b))
    (h : LW P N ops rest ((d, .bool tv) :: F) w K) : LW P N ops (⟨some d, .binOp .eql t x y t', ty, pos, af, g⟩ :: rest) F w K :=
  LW.eql (kb := some) (r := tv) (by rw [he]; rfl) hw hdN hx hy (fun c hc => by cases hc; exact h)
theorem LW.neq_lit {a b : Int} {ik : IntKind} {tv : Bool} (he : (a != b) = tv) (hw : Wn ops F g) (hdN : Nat.blt d N = true) (hx : ev F x = some (.int ik a)) (hy : ev F y = some (.int ik b))
    (h : LW P N ops rest ((d, .bool tv) :: F) w K) : LW P N ops (⟨some d, .binOp .neq t x y t', ty, pos, af, g⟩ :: rest) F w K :=
  LW.neq (kb := some) (r := tv) (by rw [he]; rfl) hw hdN hx hy (fun c hc => by cases hc; exact h)
theorem LW.idxS {l : List UInt8} {i : Int} {c : UInt8} {k : IntKind} {T : TypeId} (h0 : 0 ≤ i) (hc : l[i.toNat]? = some c) (hT : P.underlying T = some .string) (hw : Wn ops F g) (hdN : Nat.blt d N = true) (hx : ev F x = some (strV l)) (hy : ev F y = some (.int k i))
    (h : LW P N ops rest ((d, .int .u8 (c.toNat : Int)) :: F) w K) : LW P N ops (⟨some d, .index T x y, ty, pos, af, g⟩ :: rest) F w K :=
  LW.val rfl hw rfl hdN (fun q hq => by simp only [execOp, hq.eval hx, hq.eval hy, Sem.run_bind, run_indexS hT l h0 hc, Result.andThen_ok, Sem.run_pure]) h
theorem LW.rangeS {l : List UInt8} {T : TypeId} (hT : P.underlying T = some .string) (hw : Wn ops F g) (hdN : Nat.blt d N = true) (hx : ev F x = some (strV l))
    (h : LW P N ops rest ((d, .pointer (some ⟨w.heap.size, 0, none⟩)) :: F) (w.iter ⟨l.toArray⟩ 0) K) : LW P N ops (⟨some d, .range T x, ty, pos, af, g⟩ :: rest) F w K :=
  LW.val rfl hw rfl hdN (fun q hq => by simp [execOp, hq.eval hx, strV, run_range_string w T _ hT]) h
theorem run_next_any (w : World) (s : ByteArray) (pos : Nat) (ty : TypeId) (h : pos < s.size) :
    (Instr.next (.pointer (some ⟨w.heap.size, 0, none⟩)) true ty).run P (w.iter s pos) = .ok (.tuple #[.bool true, .int .i64 pos, .int .i32 ((Utf8.decode s pos).1 : Nat)]) (w.iter s (pos + (Utf8.decode s pos).2)) := by
  simp only [Instr.next, getObj, setObj, Sem.run_bind, Sem.run, World.iter_heap, Result.andThen, h, if_true, World.iter_set]
  simp [goInt, Sem.run, World.iter_heap, World.iter_set]
theorem LW.nextS {l : List UInt8} {i : Nat} (hi : i < l.length) (hw : Wn ops F g) (hdN : Nat.blt d N = true) (hx : ev F x = some (.pointer (some ⟨w.heap.size, 0, none⟩)))
    (h : LW P N ops rest ((d, .tuple [.bool true, .int .i64 (i : Int), .int .i32 ((Utf8.decode ⟨l.toArray⟩ i).1 : Nat)].toArray) :: F) (w.iter ⟨l.toArray⟩ (i + (Utf8.decode ⟨l.toArray⟩ i).2)) K) :
    LW P N ops (⟨some d, .next x true, ty, pos, af, g⟩ :: rest) F (w.iter ⟨l.toArray⟩ i) K :=
  LW.val rfl hw rfl hdN (fun q hq => by simp only [execOp, hq.eval hx, Sem.run_bind, run_next_any (P := P) w _ _ _ (show i < (ByteArray.mk l.toArray).size by rw [strV_size]; exact hi), Result.andThen_ok, Sem.run_pure]) h
theorem LW.nextE {l : List UInt8} {i : Nat} (hi : ¬ i < l.length) (hw : Wn ops F g) (hdN : Nat.blt d N = true) (hx : ev F x = some (.pointer (some ⟨w.heap.size, 0, none⟩)))
    (h : LW P N ops rest ((d, .tuple [.bool false].toArray) :: F) (w.iter ⟨l.toArray⟩ i) K) :
    LW P N ops (⟨some d, .next x true, ty, pos, af, g⟩ :: rest) F (w.iter ⟨l.toArray⟩ i) K :=
  LW.val rfl hw rfl hdN (fun q hq => by simp only [execOp, hq.eval hx, Sem.run_bind, run_next_end (P := P) w _ _ _ (show ¬ i < (ByteArray.mk l.toArray).size by rw [strV_size]; exact hi), Result.andThen_ok, Sem.run_pure]) h
end
theorem get_of {l : List UInt8} {i : Nat} {c : UInt8} (h : l[i]? = some c) : (ByteArray.mk l.toArray).get! i = c := by
  obtain ⟨hlt, rfl⟩ := List.getElem?_eq_some_iff.1 h
  show l.toArray[i]! = _
  simp [hlt]
theorem decode_lo {l : List UInt8} {i : Nat} {c : UInt8} (h : l[i]? = some c) (hc : c.toNat < 128) : Utf8.decode ⟨l.toArray⟩ i = (c.toNat, 1) := by
  unfold Utf8.decode
  simp only [Nat.add_zero, get_of h]
  rw [if_pos (by omega)]
theorem decode_hi {l : List UInt8} {i : Nat} {c : UInt8} (h : l[i]? = some c) (hc : 128 ≤ c.toNat) : 126 < (Utf8.decode ⟨l.toArray⟩ i).1 := by
  unfold Utf8.decode
  simp only [Nat.add_zero, get_of h]
  rw [if_neg (by omega)]
  have e : Utf8.runeError = 65533 := rfl
  repeat' split
  all_goals first | (rename_i hq; simp only [Bool.and_eq_true, decide_eq_true_eq] at hq; omega) | omega
theorem wrOk_no {l : List UInt8} {k : Nat} {c : UInt8} (h : l[k]? = some c) (hb : (decide (((Utf8.decode ⟨l.toArray⟩ k).1 : Int) < 33) || (decide (126 < ((Utf8.decode ⟨l.toArray⟩ k).1 : Int)) || ((((Utf8.decode ⟨l.toArray⟩ k).1 : Int) == 44) || ((((Utf8.decode ⟨l.toArray⟩ k).1 : Int) == 59) || (((Utf8.decode ⟨l.toArray⟩ k).1 : Int) == 42))))) = true) : wrOk c = false := by
  by_cases hc : c.toNat < 128
  · rw [decode_lo h hc] at hb
    simp only [Bool.or_eq_true, decide_eq_true_eq, beq_iff_eq] at hb
    cases hw : wrOk c with
    | false => rfl
    | true =>
      unfold wrOk at hw
      rw [decide_eq_true_eq] at hw
      omega
  · cases hw : wrOk c with
    | false => rfl
    | true =>
      unfold wrOk at hw
      rw [decide_eq_true_eq] at hw
      omega
theorem wrOk_yes {l : List UInt8} {k : Nat} {c : UInt8} (h : l[k]? = some c) (h0 : decide (((Utf8.decode ⟨l.toArray⟩ k).1 : Int) < 33) = false) (h1 : decide (126 < ((Utf8.decode ⟨l.toArray⟩ k).1 : Int)) = false) (h2 : (((Utf8.decode ⟨l.toArray⟩ k).1 : Int) == 44) = false) (h3 : (((Utf8.decode ⟨l.toArray⟩ k).1 : Int) == 59) = false) (h4 : (((Utf8.decode ⟨l.toArray⟩ k).1 : Int) == 42) = false) : c.toNat < 128 ∧ wrOk c = true := by
  by_cases hc : c.toNat < 128
  · rw [decode_lo h hc] at h0 h1 h2 h3 h4
    simp only [decide_eq_false_iff_not, beq_eq_false_iff_ne, ne_eq] at h0 h1 h2 h3 h4
    refine ⟨hc, ?_⟩
    unfold wrOk
    rw [decide_eq_true_eq]
    omega
  · have := decode_hi h (by omega)
    simp only [decide_eq_false_iff_not] at h1
    omega
theorem iter_stp {lab : Lab} {w : World} {s : ByteArray} {i : Nat} (t : Top lab w) : Stp [] lab w lab (w.iter s i) := by
  have hs : (w.iter s i).heap.size = w.heap.size + 1 := by show (w.heap.push _).size = _; rw [Array.size_push]
  refine ⟨rfl, rfl, rfl, by omega, fun b hb _ => ?_, fun _ _ _ => rfl, fun b hb => t b (by omega)⟩
  show (w.heap.push _)[b]? = _
  rw [Array.getElem?_push]
  rw [if_neg (by omega)]
theorem c_written {lab : Lab} {w : World} (l : List UInt8) (t : Top lab w) : Calls Tryd.prog 34 [strV l].toArray w fun e w' => e = .returned (.bool (Nat.ble l.length 64 && (wrHead l && l.all wrOk))) ∧ Stp [] lab w lab w' := by
  refine enter Tryd.func34 rfl 41 rfl rfl ?_
  refine CW.seq ?_
  refine CW.region ?_
  refine LW.assign wn rfl rfl ?_
  refine LW.nil ?_
  refine EW.seq_n ?_
  have hbad : ∀ {F : List (Nat × Value)}, Gk.look F 2 = some (.bool false) → (Nat.ble l.length 64 && (wrHead l && l.all wrOk)) = false → EW 41 .ret F w (bodyPost Tryd.prog Tryd.f34 fun e w' => e = .returned (.bool (Nat.ble l.length 64 && (wrHead l && l.all wrOk))) ∧ Stp [] lab w lab w') := fun hF hb => EW.ret1 rfl hF ⟨by rw [hb], Stp.refl t⟩
  refine CW.seq_join (fun F_ w' => F_ = [(0, strV l)] ∧ w' = w ∧ Nat.ble l.length 64 = true ∧ wrHead l = true) ?_ ?_
  · refine CW.seq ?_
    refine CW.region ?_
    refine LW.move wn rfl rfl ?_
    refine LW.lenS kUnd_9 wn rfl rfl ?_
    rcases (Bool.eq_false_or_eq_true (Nat.ble l.length 64)).symm with h64 | h64
    · have hgt : decide ((64 : Int) < (l.length : Int)) = true := decide_eq_true (by
        have : ¬ l.length ≤ 64 := fun h => by rw [Nat.ble_eq_true_of_le h] at h64; cases h64
        omega)
      refine LW.gtr_lit hgt wn rfl rfl rfl ?_
      refine LW.move wn rfl rfl ?_
      refine LW.skip 8 rfl rfl rfl rfl ?_
      refine LW.skip 8 rfl rfl rfl rfl ?_
      refine LW.skip 8 rfl rfl rfl rfl ?_
      refine LW.skip 8 rfl rfl rfl rfl ?_
      refine LW.skipU 12 rfl rfl rfl ?_
      refine LW.skipU 12 rfl rfl rfl ?_
      refine LW.skipU 12 rfl rfl rfl ?_
      refine LW.skip 8 rfl rfl rfl rfl ?_
      refine LW.pick_t wn rfl rfl rfl ?_
      refine LW.nil ?_
      refine EW.seq_n ?_
      refine CW.cond_t rfl ?_
      refine CW.seq ?_
      refine CW.region ?_
      refine LW.assign wn rfl rfl ?_
      refine LW.nil ?_
      refine EW.seq_n ?_
      refine CW.ret ?_
      refine EW.join_r ?_
      exact hbad rfl (by rw [h64]; rfl)
    · have hle : decide ((64 : Int) < (l.length : Int)) = false := decide_eq_false (by have := Nat.le_of_ble_eq_true h64; omega)
      refine LW.gtr_lit hle wn rfl rfl rfl ?_
      refine LW.move wn rfl rfl ?_
      refine LW.move (ws 8 rfl rfl) rfl rfl ?_
      refine LW.lenS kUnd_9 (ws 8 rfl rfl) rfl rfl ?_
      by_cases hl : l = []
      · have hh : wrHead l = true := by rw [hl]; rfl
        refine LW.gtr_lit (tv := false) (by rw [hl]; rfl) (ws 8 rfl rfl) rfl rfl rfl ?_
        refine LW.move (ws 8 rfl rfl) rfl rfl ?_
        refine LW.skip 12 rfl rfl rfl rfl ?_
        refine LW.skip 12 rfl rfl rfl rfl ?_
        refine LW.skip 12 rfl rfl rfl rfl ?_
        refine LW.pick_f (ws 8 rfl rfl) rfl rfl rfl ?_
        refine LW.pick_f wn rfl rfl rfl ?_
        refine LW.nil ?_
        refine EW.seq_n ?_
        refine CW.cond_f rfl ?_
        refine CW.skip ?_
        refine EW.sub (G := [(0, strV l)]) ⟨rfl, trivial⟩ ?_
        exact EW.join_n ⟨rfl, rfl, h64, hh⟩
      · obtain ⟨c, q, hcq⟩ := List.exists_cons_of_ne_nil hl
        have h0 : l[(0 : Int).toNat]? = some c := by rw [hcq]; rfl
        refine LW.gtr_lit (tv := true) (decide_eq_true (by rw [hcq]; simp)) (ws 8 rfl rfl) rfl rfl rfl ?_
        refine LW.move (ws 8 rfl rfl) rfl rfl ?_
        refine LW.move (ws 12 rfl rfl) rfl rfl ?_
        refine LW.idxS (Int.le_refl 0) h0 kUnd_9 (ws 12 rfl rfl) rfl rfl rfl ?_
        have hw : wrHead l = Nat.beq c.toNat 47 := by rw [hcq]; rfl
        cases hb : Nat.beq c.toNat 47 with
        | true =>
          have hc := Nat.eq_of_beq_eq_true hb
          refine LW.neq_lit (tv := false) (by rw [hc]; rfl) (ws 12 rfl rfl) rfl rfl rfl ?_
          refine LW.pick_t (ws 8 rfl rfl) rfl rfl rfl ?_
          refine LW.pick_f wn rfl rfl rfl ?_
          refine LW.nil ?_
          refine EW.seq_n ?_
          refine CW.cond_f rfl ?_
          refine CW.skip ?_
          refine EW.sub (G := [(0, strV l)]) ⟨rfl, trivial⟩ ?_
          exact EW.join_n ⟨rfl, rfl, h64, hw.trans hb⟩
        | false =>
          have hne : c.toNat ≠ 47 := fun e => by rw [e] at hb; cases hb
          refine LW.neq_lit (tv := true) (by simp only [bne_iff_ne, ne_eq]; omega) (ws 12 rfl rfl) rfl rfl rfl ?_
          refine LW.pick_t (ws 8 rfl rfl) rfl rfl rfl ?_
          refine LW.pick_f wn rfl rfl rfl ?_
          refine LW.nil ?_
          refine EW.seq_n ?_
          refine CW.cond_t rfl ?_
          refine CW.seq ?_
          refine CW.region ?_
          refine LW.assign wn rfl rfl ?_
          refine LW.nil ?_
          refine EW.seq_n ?_
          refine CW.ret ?_
          refine EW.join_r ?_
          exact hbad rfl (by rw [hw, hb, Bool.false_and, Bool.and_false])
  · rintro _ w2 ⟨rfl, hv, h64, hh⟩
    subst hv
    rw [h64, hh, Bool.true_and, Bool.true_and]
    clear hbad
    refine CW.seq ?_
    refine CW.seq ?_
    refine CW.region ?_
    refine LW.move wn rfl rfl ?_
    refine LW.rangeS kUnd_9 wn rfl rfl ?_
    refine LW.nil ?_
    refine EW.seq_n ?_
    refine CW.block ?_
    refine CW.sub (G := [(19, .pointer (some ⟨w2.heap.size, 0, none⟩))]) ⟨rfl, trivial⟩ ?_
    refine CW.loop (fun n F_ v => ∃ k rem, n = rem.length ∧ l.drop k = rem ∧ F_ = [(19, .pointer (some ⟨w2.heap.size, 0, none⟩))] ∧ v = w2.iter ⟨l.toArray⟩ k ∧ rem.all wrOk = l.all wrOk) _ ⟨0, l, rfl, rfl, rfl, rfl, rfl⟩ ?_
    rintro _ _ _ ⟨k, rem, rfl, hk, rfl, rfl, hall⟩
    refine CW.seq ?_
    refine CW.region ?_
    cases rem with
    | nil =>
      have hlen : ¬ k < l.length := fun h => by
        have := congrArg List.length hk
        rw [List.length_drop, List.length_nil] at this
        omega
      refine LW.nextE hlen wn rfl rfl ?_
      refine LW.extract (v := .bool false) wn rfl rfl rfl ?_
      refine LW.nil ?_
      refine EW.seq_n ?_
      refine CW.seq ?_
      refine CW.cond_f rfl ?_
      refine CW.exit ?_
      refine EW.seq_x ?_
      refine EW.join_x ?_
      refine EW.block_x ?_
      refine EW.seq_n ?_
      refine CW.seq ?_
      refine CW.region ?_
      refine LW.assign wn rfl rfl ?_
      refine LW.nil ?_
      refine EW.seq_n ?_
      refine CW.ret ?_
      exact EW.ret1 rfl rfl ⟨by rw [← hall]; rfl, iter_stp t⟩
    | cons c rem =>
      have hlt : k < l.length := by
        have := congrArg List.length hk
        rw [List.length_drop, List.length_cons] at this
        omega
      have hc : l[k]? = some c := by
        have := congrArg (fun z => z[0]?) hk
        simpa using this
      have hk' : l.drop (k + 1) = rem := by
        have := congrArg (fun z => z.drop 1) hk
        simpa using this
      refine LW.nextS hlt wn rfl rfl ?_
      refine LW.extract (v := .bool true) wn rfl rfl rfl ?_
      refine LW.nil ?_
      refine EW.seq_n ?_
      refine CW.seq ?_
      refine CW.cond_t rfl ?_
      refine CW.skip ?_
      refine EW.seq_n ?_
      refine CW.block ?_
      refine CW.seq ?_
      refine CW.region ?_
      refine LW.extract (v := .int .i32 ((Utf8.decode ⟨l.toArray⟩ k).1 : Nat)) wn rfl rfl rfl ?_
      refine LW.assign wn rfl rfl ?_
      refine LW.nil ?_
      refine EW.seq_n ?_
      refine CW.seq ?_
      refine CW.region ?_
      have hbad : ∀ {F : List (Nat × Value)} {j : Nat}, Gk.look F 2 = some (.bool false) → wrOk c = false → EW 41 .ret F (w2.iter ⟨l.toArray⟩ j) (bodyPost Tryd.prog Tryd.f34 fun e v => e = .returned (.bool (l.all wrOk)) ∧ Stp [] lab w2 lab v) := fun hF hb => EW.ret1 rfl hF ⟨by rw [← hall, List.all_cons, hb, Bool.false_and], iter_stp t⟩
      cases h0 : decide (((Utf8.decode ⟨l.toArray⟩ k).1 : Int) < 33) with
      | true =>
        have hno : wrOk c = false := wrOk_no hc (by rw [h0]; simp)
        refine LW.move wn rfl rfl ?_
        refine LW.lss_lit h0 wn rfl rfl rfl ?_
        refine LW.move wn rfl rfl ?_
        refine LW.skip 25 rfl rfl rfl rfl ?_
        refine LW.skip 25 rfl rfl rfl rfl ?_
        refine LW.pick_t wn rfl rfl rfl ?_
        refine LW.move wn rfl rfl ?_
        refine LW.skip 29 rfl rfl rfl rfl ?_
        refine LW.skip 29 rfl rfl rfl rfl ?_
        refine LW.pick_t wn rfl rfl rfl ?_
        refine LW.move wn rfl rfl ?_
        refine LW.skip 33 rfl rfl rfl rfl ?_
        refine LW.skip 33 rfl rfl rfl rfl ?_
        refine LW.pick_t wn rfl rfl rfl ?_
        refine LW.move wn rfl rfl ?_
        refine LW.skip 37 rfl rfl rfl rfl ?_
        refine LW.skip 37 rfl rfl rfl rfl ?_
        refine LW.pick_t wn rfl rfl rfl ?_
        refine LW.nil ?_
        refine EW.seq_n ?_
        refine CW.cond_t rfl ?_
        refine CW.seq ?_
        refine CW.region ?_
        refine LW.assign wn rfl rfl ?_
        refine LW.nil ?_
        refine EW.seq_n ?_
        refine CW.ret ?_
        refine EW.block_r ?_
        refine EW.join_r ?_
        refine EW.block_r ?_
        refine EW.seq_r ?_
        exact hbad rfl hno
      | false =>
        cases h1 : decide (126 < ((Utf8.decode ⟨l.toArray⟩ k).1 : Int)) with
        | true =>
          have hno : wrOk c = false := wrOk_no hc (by rw [h1]; simp)
          refine LW.move wn rfl rfl ?_
          refine LW.lss_lit h0 wn rfl rfl rfl ?_
          refine LW.move wn rfl rfl ?_
          refine LW.move (ws 25 rfl rfl) rfl rfl ?_
          refine LW.gtr_lit h1 (ws 25 rfl rfl) rfl rfl rfl ?_
          refine LW.pick_f wn rfl rfl rfl ?_
          refine LW.move wn rfl rfl ?_
          refine LW.skip 29 rfl rfl rfl rfl ?_
          refine LW.skip 29 rfl rfl rfl rfl ?_
          refine LW.pick_t wn rfl rfl rfl ?_
          refine LW.move wn rfl rfl ?_
          refine LW.skip 33 rfl rfl rfl rfl ?_
          refine LW.skip 33 rfl rfl rfl rfl ?_
          refine LW.pick_t wn rfl rfl rfl ?_
          refine LW.move wn rfl rfl ?_
          refine LW.skip 37 rfl rfl rfl rfl ?_
          refine LW.skip 37 rfl rfl rfl rfl ?_
          refine LW.pick_t wn rfl rfl rfl ?_
          refine LW.nil ?_
          refine EW.seq_n ?_
          refine CW.cond_t rfl ?_
          refine CW.seq ?_
          refine CW.region ?_
          refine LW.assign wn rfl rfl ?_
          refine LW.nil ?_
          refine EW.seq_n ?_
          refine CW.ret ?_
          refine EW.block_r ?_
          refine EW.join_r ?_
          refine EW.block_r ?_
          refine EW.seq_r ?_
          exact hbad rfl hno
        | false =>
          cases h2 : (((Utf8.decode ⟨l.toArray⟩ k).1 : Int) == 44) with
          | true =>
            have hno : wrOk c = false := wrOk_no hc (by rw [h2]; simp)
            refine LW.move wn rfl rfl ?_
            refine LW.lss_lit h0 wn rfl rfl rfl ?_
            refine LW.move wn rfl rfl ?_
            refine LW.move (ws 25 rfl rfl) rfl rfl ?_
            refine LW.gtr_lit h1 (ws 25 rfl rfl) rfl rfl rfl ?_
            refine LW.pick_f wn rfl rfl rfl ?_
            refine LW.move wn rfl rfl ?_
            refine LW.move (ws 29 rfl rfl) rfl rfl ?_
            refine LW.eql_lit h2 (ws 29 rfl rfl) rfl rfl rfl ?_
            refine LW.pick_f wn rfl rfl rfl ?_
            refine LW.move wn rfl rfl ?_
            refine LW.skip 33 rfl rfl rfl rfl ?_
            refine LW.skip 33 rfl rfl rfl rfl ?_
            refine LW.pick_t wn rfl rfl rfl ?_
            refine LW.move wn rfl rfl ?_
            refine LW.skip 37 rfl rfl rfl rfl ?_
            refine LW.skip 37 rfl rfl rfl rfl ?_
            refine LW.pick_t wn rfl rfl rfl ?_
            refine LW.nil ?_
            refine EW.seq_n ?_
            refine CW.cond_t rfl ?_
            refine CW.seq ?_
            refine CW.region ?_
            refine LW.assign wn rfl rfl ?_
            refine LW.nil ?_
            refine EW.seq_n ?_
            refine CW.ret ?_
            refine EW.block_r ?_
            refine EW.join_r ?_
            refine EW.block_r ?_
            refine EW.seq_r ?_
            exact hbad rfl hno
          | false =>
            cases h3 : (((Utf8.decode ⟨l.toArray⟩ k).1 : Int) == 59) with
            | true =>
              have hno : wrOk c = false := wrOk_no hc (by rw [h3]; simp)
              refine LW.move wn rfl rfl ?_
              refine LW.lss_lit h0 wn rfl rfl rfl ?_
              refine LW.move wn rfl rfl ?_
              refine LW.move (ws 25 rfl rfl) rfl rfl ?_
              refine LW.gtr_lit h1 (ws 25 rfl rfl) rfl rfl rfl ?_
              refine LW.pick_f wn rfl rfl rfl ?_
              refine LW.move wn rfl rfl ?_
              refine LW.move (ws 29 rfl rfl) rfl rfl ?_
              refine LW.eql_lit h2 (ws 29 rfl rfl) rfl rfl rfl ?_
              refine LW.pick_f wn rfl rfl rfl ?_
              refine LW.move wn rfl rfl ?_
              refine LW.move (ws 33 rfl rfl) rfl rfl ?_
              refine LW.eql_lit h3 (ws 33 rfl rfl) rfl rfl rfl ?_
              refine LW.pick_f wn rfl rfl rfl ?_
              refine LW.move wn rfl rfl ?_
              refine LW.skip 37 rfl rfl rfl rfl ?_
              refine LW.skip 37 rfl rfl rfl rfl ?_
              refine LW.pick_t wn rfl rfl rfl ?_
              refine LW.nil ?_
              refine EW.seq_n ?_
              refine CW.cond_t rfl ?_
              refine CW.seq ?_
              refine CW.region ?_
              refine LW.assign wn rfl rfl ?_
              refine LW.nil ?_
              refine EW.seq_n ?_
              refine CW.ret ?_
              refine EW.block_r ?_
              refine EW.join_r ?_
              refine EW.block_r ?_
              refine EW.seq_r ?_
              exact hbad rfl hno
            | false =>
              cases h4 : (((Utf8.decode ⟨l.toArray⟩ k).1 : Int) == 42) with
              | true =>
                have hno : wrOk c = false := wrOk_no hc (by rw [h4]; simp)
                refine LW.move wn rfl rfl ?_
                refine LW.lss_lit h0 wn rfl rfl rfl ?_
                refine LW.move wn rfl rfl ?_
                refine LW.move (ws 25 rfl rfl) rfl rfl ?_
                refine LW.gtr_lit h1 (ws 25 rfl rfl) rfl rfl rfl ?_
                refine LW.pick_f wn rfl rfl rfl ?_
                refine LW.move wn rfl rfl ?_
                refine LW.move (ws 29 rfl rfl) rfl rfl ?_
                refine LW.eql_lit h2 (ws 29 rfl rfl) rfl rfl rfl ?_
                refine LW.pick_f wn rfl rfl rfl ?_
                refine LW.move wn rfl rfl ?_
                refine LW.move (ws 33 rfl rfl) rfl rfl ?_
                refine LW.eql_lit h3 (ws 33 rfl rfl) rfl rfl rfl ?_
                refine LW.pick_f wn rfl rfl rfl ?_
                refine LW.move wn rfl rfl ?_
                refine LW.move (ws 37 rfl rfl) rfl rfl ?_
                refine LW.eql_lit h4 (ws 37 rfl rfl) rfl rfl rfl ?_
                refine LW.pick_f wn rfl rfl rfl ?_
                refine LW.nil ?_
                refine EW.seq_n ?_
                refine CW.cond_t rfl ?_
                refine CW.seq ?_
                refine CW.region ?_
                refine LW.assign wn rfl rfl ?_
                refine LW.nil ?_
                refine EW.seq_n ?_
                refine CW.ret ?_
                refine EW.block_r ?_
                refine EW.join_r ?_
                refine EW.block_r ?_
                refine EW.seq_r ?_
                exact hbad rfl hno
              | false =>
                have ⟨hlo, hyes⟩ := wrOk_yes hc h0 h1 h2 h3 h4
                refine LW.move wn rfl rfl ?_
                refine LW.lss_lit h0 wn rfl rfl rfl ?_
                refine LW.move wn rfl rfl ?_
                refine LW.move (ws 25 rfl rfl) rfl rfl ?_
                refine LW.gtr_lit h1 (ws 25 rfl rfl) rfl rfl rfl ?_
                refine LW.pick_f wn rfl rfl rfl ?_
                refine LW.move wn rfl rfl ?_
                refine LW.move (ws 29 rfl rfl) rfl rfl ?_
                refine LW.eql_lit h2 (ws 29 rfl rfl) rfl rfl rfl ?_
                refine LW.pick_f wn rfl rfl rfl ?_
                refine LW.move wn rfl rfl ?_
                refine LW.move (ws 33 rfl rfl) rfl rfl ?_
                refine LW.eql_lit h3 (ws 33 rfl rfl) rfl rfl rfl ?_
                refine LW.pick_f wn rfl rfl rfl ?_
                refine LW.move wn rfl rfl ?_
                refine LW.move (ws 37 rfl rfl) rfl rfl ?_
                refine LW.eql_lit h4 (ws 37 rfl rfl) rfl rfl rfl ?_
                refine LW.pick_f wn rfl rfl rfl ?_
                refine LW.nil ?_
                refine EW.seq_n ?_
                refine CW.cond_f rfl ?_
                refine CW.skip ?_
                refine EW.block_n ?_
                refine EW.sub (G := [(19, .pointer (some ⟨w2.heap.size, 0, none⟩))]) ⟨rfl, trivial⟩ ?_
                refine EW.join_n ⟨rem.length, by simp, k + 1, rem, rfl, hk', rfl, ?_, ?_⟩
                · rw [decode_lo hc hlo]
                · rw [← hall, List.all_cons, hyes, Bool.true_and]
def con_scope_written : Con Tryd.prog := ⟨34, [.d .str], [.d .bool], ⟨Tryd.f34, Tryd.func34, by kernel_rfl, by kernel_rfl⟩, m_scope_written, by
  intro a r h k kp gp lab w vs t _ _ hk hargs
  match vs, hargs with
  | [v1], hargs =>
    obtain ⟨h1, _⟩ := hargs
    obtain rfl := Dat.str h1
    have h : m_scope_written a.1 = some r := h
    unfold m_scope_written at h
    cases h
    refine (c_written a.1 t).mono ?_
    rintro e w' ⟨rfl, hs⟩
    exact ⟨lab, [_], rfl, hs, Dat.ofBool _, trivial⟩⟩

def t_scope_parse : Tab Tryd.prog := ⟨tes, ses, fes, bes, [con_strings_IndexByte, con_strings_HasSuffix, con_scope_written], [], fds, [], qes, ges⟩
def h_scope_parse : Hint := (.s .n (.s .n (.s .n (.j ⟨[.d 0 .str, .b 2 49 P_api_Permit, .b 4 49 P_api_Permit], [2, 4]⟩ true (.b (.l .g ⟨[.d 0 .str, .d 5 (.int .i64), .b 2 49 P_api_Permit, .b 4 49 P_api_Permit], [2, 4]⟩ (.s (.j ⟨[.d 14 .bool], [0, 2, 4, 5]⟩ false .n (.c .n .n)) (.b (.s .n (.s (.s .n (.c (.s .n .n) .n)) (.s .n (.s .n .n)))))))) (.s (.j ⟨[.d 39 .bool], [0, 2, 4]⟩ false .n (.c (.s .n .n) .n)) (.s .n (.j ⟨[.b 4 49 P_api_Permit], [2, 4]⟩ false (.s .n (.c .n .n)) (.s .n .n))))))))

def con_scope_parse : Con Tryd.prog := ⟨41, [.d .str], [.d P_api_Permit, .d .bool], ⟨Tryd.f41, Tryd.func41, by kernel_rfl, by kernel_rfl⟩, m_scope_parse, fun a r h => mkM_ok (T := t_scope_parse) (N := 60) (own := []) (rng := []) (c := (codeOf Tryd.f41)) (h := h_scope_parse) (qs := [.cell 2 49, .tmp 3]) kMix Tryd.func41 (by kernel_rfl) (by kernel_rfl) (by kernel_rfl) (by kernel_rfl) a r (Eq.trans (by kernel_rfl) h)⟩
def t_scope_Parse : Tab Tryd.prog := ⟨tes, ses, fes, bes, [con_strings_Split, con_scope_parse], [], fds, [], qes, ges⟩
def h_scope_Parse : Hint := (.s .n (.s (.s .n (.c (.s .n .n) .n)) (.s .n (.s (.s .n (.b (.l (.a 14 13) ⟨[.o 4 49 P_api_Permit], [12, 13]⟩ (.s .n (.s (.c .n .n) (.s (.b (.s .n (.s .n (.s (.s .n (.c (.s .n .n) .n)) .n)))) .n)))))) (.s (.s .n (.c (.s .n .n) .n)) (.s .n .n))))))

def con_scope_Parse : Con Tryd.prog := ⟨21, [.d .str], [.d (.sl P_api_Permit), .d (.int .i64)], ⟨Tryd.f21, Tryd.func21, by kernel_rfl, by kernel_rfl⟩, m_scope_Parse, fun a r h => mkM_ok (T := t_scope_Parse) (N := 34) (own := [28]) (rng := [13]) (c := (codeOf Tryd.f21)) (h := h_scope_Parse) (qs := [.tmp 2, .tmp 3]) kMix Tryd.func21 (by kernel_rfl) (by kernel_rfl) (by kernel_rfl) (by kernel_rfl) a r (Eq.trans (by kernel_rfl) h)⟩
def t_scope_Valid : Tab Tryd.prog := ⟨tes, ses, fes, bes, [con_scope_written], [], fds, [], qes, ges⟩
def h_scope_Valid : Hint := (.s .n (.s (.s .n (.c (.s .n .n) .n)) (.s (.s .n (.b (.l (.a 10 9) ⟨[], [8, 9]⟩ (.s .n (.s (.c .n .n) (.s (.b (.s .n (.j ⟨[.d 27 .bool], [8, 9, 10]⟩ false .n (.c (.s .n .n) .n)))) .n)))))) (.s .n .n))))

def con_scope_Valid : Con Tryd.prog := ⟨12, [.d (.sl P_api_Permit)], [.d .bool], ⟨Tryd.f12, Tryd.func12, by kernel_rfl, by kernel_rfl⟩, m_scope_Valid, fun a r h => mkM_ok (T := t_scope_Valid) (N := 29) (own := []) (rng := [9]) (c := (codeOf Tryd.f12)) (h := h_scope_Valid) (qs := [.tmp 2]) kMix Tryd.func12 (by kernel_rfl) (by kernel_rfl) (by kernel_rfl) (by kernel_rfl) a r (Eq.trans (by kernel_rfl) h)⟩

def con_strings_HasPrefix : Con Tryd.prog := ⟨62, [.d .str, .d .str], [.d .bool], ⟨Tryd.f62, Tryd.func62, by kernel_rfl, by kernel_rfl⟩, m_strings_HasPrefix, by
  intro a r h k kp gp lab w vs t _ _ hk hargs
  match vs, hargs with
  | [v1, v2], hargs =>
    obtain ⟨h1, h2, _⟩ := hargs
    obtain rfl := Dat.str h1
    obtain rfl := Dat.str h2
    have h : some (Lib.hasPrefix a.1 a.2.1) = some r := h
    cases h
    refine (Tryd.strings_HasPrefix ⟨List.toArray (α := UInt8) a.1⟩ ⟨List.toArray (α := UInt8) a.2.1⟩ w).mono ?_
    rintro e w' ⟨rfl, rfl⟩
    exact ⟨lab, [_], rfl, Stp.refl t, Dat.ofBool _, trivial⟩⟩

def t_scope_below : Tab Tryd.prog := ⟨tes, ses, fes, bes, [con_strings_HasPrefix], [], fds, [], qes, ges⟩
def h_scope_below : Hint := (.s .n (.s .n .n))

def con_scope_below : Con Tryd.prog := ⟨51, [.d .str, .d .str], [.d .bool], ⟨Tryd.f51, Tryd.func51, by kernel_rfl, by kernel_rfl⟩, m_scope_below, fun a r h => mkM_ok (T := t_scope_below) (N := 9) (own := []) (rng := []) (c := (codeOf Tryd.f51)) (h := h_scope_below) (qs := [.tmp 4]) kMix Tryd.func51 (by kernel_rfl) (by kernel_rfl) (by kernel_rfl) (by kernel_rfl) a r (Eq.trans (by kernel_rfl) h)⟩
def t_scope_covers : Tab Tryd.prog := ⟨tes, ses, fes, bes, [con_scope_below], [], fds, [], qes, ges⟩
def h_scope_covers : Hint := (.s .n (.j ⟨[.d 4 .bool], []⟩ false .n .n))

def con_scope_covers : Con Tryd.prog := ⟨36, [.d P_api_Permit, .d .str], [.d .bool], ⟨Tryd.f36, Tryd.func36, by kernel_rfl, by kernel_rfl⟩, m_scope_covers, fun a r h => mkM_ok (T := t_scope_covers) (N := 19) (own := []) (rng := []) (c := (codeOf Tryd.f36)) (h := h_scope_covers) (qs := [.tmp 4]) kMix Tryd.func36 (by kernel_rfl) (by kernel_rfl) (by kernel_rfl) (by kernel_rfl) a r (Eq.trans (by kernel_rfl) h)⟩
def t_scope_Permits : Tab Tryd.prog := ⟨tes, ses, fes, bes, [con_scope_Valid, con_scope_covers], [], fds, [], qes, ges⟩
def h_scope_Permits : Hint := (.s .n (.s (.j ⟨[.d 19 .bool], [0, 1, 2]⟩ false .n (.c (.s .n .n) .n)) (.s (.s .n (.b (.l (.a 22 21) ⟨[], [1, 2, 20, 21]⟩ (.s .n (.s (.c .n .n) (.s (.b (.s .n (.j ⟨[.d 38 .bool], [1, 2, 20, 21, 22]⟩ false .n (.c (.s .n .n) .n)))) .n)))))) (.s .n .n))))

def con_scope_Permits : Con Tryd.prog := ⟨16, [.d (.sl P_api_Permit), .d .str, .d (.int .i64)], [.d .bool], ⟨Tryd.f16, Tryd.func16, by kernel_rfl, by kernel_rfl⟩, m_scope_Permits, fun a r h => mkM_ok (T := t_scope_Permits) (N := 40) (own := []) (rng := [21]) (c := (codeOf Tryd.f16)) (h := h_scope_Permits) (qs := [.tmp 6]) kMix Tryd.func16 (by kernel_rfl) (by kernel_rfl) (by kernel_rfl) (by kernel_rfl) a r (Eq.trans (by kernel_rfl) h)⟩

theorem Below.stp {lab : Lab} {w w' : World} (t : Top lab w) (h : Below w.heap.size w w') : Stp [] lab w lab w' :=
  ⟨h.os, h.tape, h.output, h.size, fun b hb _ => h.block b hb, fun _ _ _ => rfl, fun b hb => t b (Nat.le_trans h.size hb)⟩
theorem spot_none {w : World} {a : Addr} {v : Value} (h : w.cell? a = some v) : a = ⟨a.block, a.off, none⟩ := by
  obtain ⟨b, o, sp⟩ := a
  unfold World.cell? at h
  cases sp with
  | none => rfl
  | some s => split at h <;> simp at h
theorem c_strings_Join {lab : Lab} {w : World} {oa : Option Addr} {c : Nat} (xs : List (List UInt8)) (p : List UInt8) (s : SL Rep.str lab w oa c xs) (hb1 : (Lib.join xs p).length ≤ 140737488355328) (hb2 : xs.length ≤ 140737488355328) :
    Calls Tryd.prog 39 [.slice oa xs.length c, strV p].toArray w fun e w' => e = .returned (strV (Lib.join xs p)) ∧ Below w.heap.size w w' := by
  cases xs with
  | nil =>
    refine Calls.mono (Tryd.strings_Join_none oa c ⟨p.toArray⟩ w) ?_
    rintro e w' ⟨rfl, rfl⟩
    exact ⟨rfl, Below.refl _ _⟩
  | cons x l =>
    obtain ⟨ad, cs, h3, h4, h5⟩ := s.2.2 0 x rfl
    have h4 : cs = [strV x] := h4
    subst h4
    have h6 := (h5 0 (strV x) rfl).2
    have e0 : (ad.add (0 * Rep.str.sz)).add 0 = ad := by rw [Nat.zero_mul, add_zero', add_zero']
    rw [e0] at h6
    have e1 := spot_none h6
    rw [h3, e1]
    have hm : ((x :: l).map (fun z => (⟨z.toArray⟩ : ByteArray))).map (·.data.toList) = x :: l := by
      rw [List.map_map]
      have : ((fun z : ByteArray => z.data.toList) ∘ fun z : List UInt8 => (⟨z.toArray⟩ : ByteArray)) = id := by funext z; rfl
      rw [this, List.map_id]
    have hl : ((x :: l).map (fun z => (⟨z.toArray⟩ : ByteArray))).length = (x :: l).length := List.length_map _
    have key := Tryd.strings_Join ad.block ad.off c ((x :: l).map fun z => ⟨z.toArray⟩) ⟨p.toArray⟩ w (fun j z hz => by
      rw [List.getElem?_map] at hz
      obtain ⟨y, hy, rfl⟩ := Option.map_eq_some_iff.1 hz
      obtain ⟨ad', cs', h3', h4', h5'⟩ := s.2.2 j y hy
      have h4' : cs' = [strV y] := h4'
      subst h4'
      rw [h3] at h3'; cases h3'
      have h7 := (h5' 0 (strV y) rfl).2
      have e2 : (ad.add (j * Rep.str.sz)).add 0 = ⟨ad.block, ad.off + j, none⟩ := by
        rw [add_zero', show j * Rep.str.sz = j from Nat.mul_one j]
        rw [e1]; exact add_lit0 _ _ _
      rw [e2] at h7
      exact h7) (cell_lt h6) (by rw [hl]; exact hb2) (by rw [hl]; exact s.1) (by rw [hm]; exact hb1)
    rw [hl, hm] at key
    refine key.mono ?_
    rintro e w' ⟨rfl, hbl⟩
    exact ⟨rfl, hbl⟩
def con_strings_Join : Con Tryd.prog := ⟨39, [.d (.sl .str), .d .str], [.d .str], ⟨Tryd.f39, Tryd.func39, by kernel_rfl, by kernel_rfl⟩, m_strings_Join, by
  intro a r h k kp gp lab w vs t _ _ hk hargs
  match vs, hargs with
  | [v1, v2], hargs =>
    obtain ⟨h1, h2, _⟩ := hargs
    obtain ⟨oa, c, rfl, s⟩ := Dat.sl h1
    obtain rfl := Dat.str h2
    have h : m_strings_Join a.1 a.2.1 = some r := h
    unfold m_strings_Join at h
    cases hb : Nat.ble (Lib.join a.1 a.2.1).length 140737488355328 && Nat.ble (List.length (α := List UInt8) a.1) 140737488355328 with
    | false => rw [hb] at h; cases h
    | true =>
      rw [hb] at h
      cases h
      rw [Bool.and_eq_true] at hb
      refine (c_strings_Join a.1 a.2.1 s (Nat.le_of_ble_eq_true hb.1) (Nat.le_of_ble_eq_true hb.2)).mono ?_
      rintro e w' ⟨rfl, hbl⟩
      exact ⟨lab, [_], rfl, Below.stp t hbl, Dat.ofStr _, trivial⟩⟩

def t_scope_Print : Tab Tryd.prog := ⟨tes, ses, fes, bes, [con_scope_Valid, con_strings_Join], [], fds, [], qes, ges⟩
def h_scope_Print : Hint := (.s .n (.s (.s .n (.c (.s .n .n) .n)) (.s .n (.j ⟨[.o 3 9 .str], []⟩ false (.s .n (.b (.l (.a 13 12) ⟨[.o 3 9 .str], [11, 12]⟩ (.s .n (.s (.c .n .n) (.j ⟨[.o 3 9 .str], [11, 12, 13]⟩ false (.b (.s .n (.s .n (.j ⟨[.d 6 .str], [3, 5, 11, 12, 13]⟩ false (.s .n (.b (.l .g ⟨[.d 6 .str, .d 7 (.int .i64)], [3, 5, 11, 12, 13]⟩ (.s (.s .n (.c .n .n)) (.j ⟨[.d 6 .str], [3, 5, 7, 11, 12, 13]⟩ false (.b (.s .n (.c .n .n))) .n))))) (.s .n (.j ⟨[.d 6 .str], [3, 11, 12, 13]⟩ false (.s .n (.c .n .n)) .n)))))) .n)))))) (.s .n .n)))))

def con_scope_Print : Con Tryd.prog := ⟨19, [.d (.sl P_api_Permit)], [.d .str], ⟨Tryd.f19, Tryd.func19, by kernel_rfl, by kernel_rfl⟩, m_scope_Print, fun a r h => mkM_ok (T := t_scope_Print) (N := 50) (own := [46]) (rng := [12]) (c := (codeOf Tryd.f19)) (h := h_scope_Print) (qs := [.tmp 2]) kMix Tryd.func19 (by kernel_rfl) (by kernel_rfl) (by kernel_rfl) (by kernel_rfl) a r (Eq.trans (by kernel_rfl) h)⟩
def t_coreseclaw39_awake : Tab Tryd.prog := ⟨tes, ses, fes, bes, [con_scope_Parse, con_scope_Permits, con_scope_Print], [], fds, [], qes, ges⟩
def h_coreseclaw39_awake : Hint := (.s .n (.s .n (.j ⟨[.d 0 .bool], []⟩ false .n .n)))

def con_coreseclaw39_awake : Con Tryd.prog := ⟨9, [], [.d .bool], ⟨Tryd.f9, Tryd.func9, by kernel_rfl, by kernel_rfl⟩, m_coreseclaw39_awake, fun a r h => mkM_ok (T := t_coreseclaw39_awake) (N := 28) (own := []) (rng := []) (c := (codeOf Tryd.f9)) (h := h_coreseclaw39_awake) (qs := [.tmp 0]) kMix Tryd.func9 (by kernel_rfl) (by kernel_rfl) (by kernel_rfl) (by kernel_rfl) a r (Eq.trans (by kernel_rfl) h)⟩
def t_coresecmake_New : Tab Tryd.prog := ⟨tes, ses, fes, bes, [], [], fds, [], qes, ges⟩
def h_coresecmake_New : Hint := (.s .n (.s .n .n))

def con_coresecmake_New : Con Tryd.prog := ⟨11, [.d (.sl (.int .i64))], [.p 53 P_coresecmake_Deck], ⟨Tryd.f11, Tryd.func11, by kernel_rfl, by kernel_rfl⟩, m_coresecmake_New, fun a r h => mkM_ok (T := t_coresecmake_New) (N := 6) (own := []) (rng := []) (c := (codeOf Tryd.f11)) (h := h_coresecmake_New) (qs := [.tmp 2]) kMix Tryd.func11 (by kernel_rfl) (by kernel_rfl) (by kernel_rfl) (by kernel_rfl) a r (Eq.trans (by kernel_rfl) h)⟩
def t_coresecmake_Mod : Tab Tryd.prog := ⟨tes, ses, fes, bes, [], [], fds, [], qes, ges⟩
def h_coresecmake_Mod : Hint := (.s .n (.s .n (.j ⟨[.d 5 (.int .i64)], []⟩ false (.s .n (.c .n .n)) (.s .n .n))))

def con_coresecmake_Mod : Con Tryd.prog := ⟨15, [.d (.int .i64), .d (.int .i64)], [.d (.int .i64)], ⟨Tryd.f15, Tryd.func15, by kernel_rfl, by kernel_rfl⟩, m_coresecmake_Mod, fun a r h => mkM_ok (T := t_coresecmake_Mod) (N := 15) (own := []) (rng := []) (c := (codeOf Tryd.f15)) (h := h_coresecmake_Mod) (qs := [.tmp 4]) kMix Tryd.func15 (by kernel_rfl) (by kernel_rfl) (by kernel_rfl) (by kernel_rfl) a r (Eq.trans (by kernel_rfl) h)⟩
def t_coresecmake_Deck_Next : Tab Tryd.prog := ⟨tes, ses, fes, bes, [con_coresecmake_Mod], [], fds, [], qes, ges⟩
def h_coresecmake_Deck_Next : Hint := (.s .n (.s (.s .n (.c (.s .n .n) .n)) (.s .n (.s .n .n))))

def con_coresecmake_Deck_Next : Con Tryd.prog := ⟨32, [.p 53 P_coresecmake_Deck, .d (.int .i64)], [.d (.int .i64)], ⟨Tryd.f32, Tryd.func32, by kernel_rfl, by kernel_rfl⟩, m_coresecmake_Deck_Next, fun a r h => mkM_ok (T := t_coresecmake_Deck_Next) (N := 35) (own := []) (rng := []) (c := (codeOf Tryd.f32)) (h := h_coresecmake_Deck_Next) (qs := [.tmp 4]) kMix Tryd.func32 (by kernel_rfl) (by kernel_rfl) (by kernel_rfl) (by kernel_rfl) a r (Eq.trans (by kernel_rfl) h)⟩
def t_coresecmake2_Path : Tab Tryd.prog := ⟨tes, ses, fes, bes, [con_coresecmake_Deck_Next], [], fds, [], qes, ges⟩
def h_coresecmake2_Path : Hint := (.s .n (.s .n .n))

def con_coresecmake2_Path : Con Tryd.prog := ⟨33, [.p 53 P_coresecmake_Deck], [.d .str], ⟨Tryd.f33, Tryd.func33, by kernel_rfl, by kernel_rfl⟩, m_coresecmake2_Path, fun a r h => mkM_ok (T := t_coresecmake2_Path) (N := 8) (own := []) (rng := []) (c := (codeOf Tryd.f33)) (h := h_coresecmake2_Path) (qs := [.tmp 2]) kMix Tryd.func33 (by kernel_rfl) (by kernel_rfl) (by kernel_rfl) (by kernel_rfl) a r (Eq.trans (by kernel_rfl) h)⟩
def t_coresecmake2_Scope : Tab Tryd.prog := ⟨tes, ses, fes, bes, [con_coresecmake_Deck_Next, con_coresecmake2_Path], [], fds, [], qes, ges⟩
def h_coresecmake2_Scope : Hint := (.s .n (.s .n (.s (.s .n (.b (.l .g ⟨[.o 3 49 P_api_Permit, .d 4 (.int .i64), .b 0 53 P_coresecmake_Deck], [0]⟩ (.s (.s .n (.c .n .n)) (.s (.b .n) .n))))) (.s .n .n))))

def con_coresecmake2_Scope : Con Tryd.prog := ⟨10, [.p 53 P_coresecmake_Deck], [.d (.sl P_api_Permit)], ⟨Tryd.f10, Tryd.func10, by kernel_rfl, by kernel_rfl⟩, m_coresecmake2_Scope, fun a r h => mkM_ok (T := t_coresecmake2_Scope) (N := 29) (own := [27]) (rng := []) (c := (codeOf Tryd.f10)) (h := h_coresecmake2_Scope) (qs := [.tmp 2]) kMix Tryd.func10 (by kernel_rfl) (by kernel_rfl) (by kernel_rfl) (by kernel_rfl) a r (Eq.trans (by kernel_rfl) h)⟩
def t_coresecref39_Written : Tab Tryd.prog := ⟨tes, ses, fes, bes, [], [], fds, [], qes, ges⟩
def h_coresecref39_Written : Hint := (.s .n (.s (.j ⟨[.d 16 .bool], [0]⟩ false .n (.c (.s .n .n) .n)) (.s (.s .n (.b (.l .g ⟨[.d 3 (.int .i64)], [0]⟩ (.s (.s .n (.c .n .n)) (.s (.b (.j ⟨[.d 50 .bool], [0, 3]⟩ false .n (.c (.s .n .n) .n))) .n))))) (.s .n .n))))

def con_coresecref39_Written : Con Tryd.prog := ⟨50, [.d .str], [.d .bool], ⟨Tryd.f50, Tryd.func50, by kernel_rfl, by kernel_rfl⟩, m_coresecref39_Written, fun a r h => mkM_ok (T := t_coresecref39_Written) (N := 51) (own := []) (rng := []) (c := (codeOf Tryd.f50)) (h := h_coresecref39_Written) (qs := [.tmp 2]) kMix Tryd.func50 (by kernel_rfl) (by kernel_rfl) (by kernel_rfl) (by kernel_rfl) a r (Eq.trans (by kernel_rfl) h)⟩
def t_coresecref39_fine : Tab Tryd.prog := ⟨tes, ses, fes, bes, [con_coresecref39_Written], [], fds, [], qes, ges⟩
def h_coresecref39_fine : Hint := (.s .n (.j ⟨[.d 2 .bool], []⟩ false .n .n))

def con_coresecref39_fine : Con Tryd.prog := ⟨35, [.d P_api_Permit], [.d .bool], ⟨Tryd.f35, Tryd.func35, by kernel_rfl, by kernel_rfl⟩, m_coresecref39_fine, fun a r h => mkM_ok (T := t_coresecref39_fine) (N := 16) (own := []) (rng := []) (c := (codeOf Tryd.f35)) (h := h_coresecref39_fine) (qs := [.tmp 2]) kMix Tryd.func35 (by kernel_rfl) (by kernel_rfl) (by kernel_rfl) (by kernel_rfl) a r (Eq.trans (by kernel_rfl) h)⟩
def t_coresecref39_Valid : Tab Tryd.prog := ⟨tes, ses, fes, bes, [con_coresecref39_fine], [], fds, [], qes, ges⟩
def h_coresecref39_Valid : Hint := (.s .n (.s (.s .n (.b (.l (.a 7 6) ⟨[], [0, 5, 6]⟩ (.s .n (.s (.c .n .n) (.s (.b (.s .n (.s .n (.c (.s .n .n) .n)))) .n)))))) (.s .n .n)))

def con_coresecref39_Valid : Con Tryd.prog := ⟨13, [.d (.sl P_api_Permit)], [.d .bool], ⟨Tryd.f13, Tryd.func13, by kernel_rfl, by kernel_rfl⟩, m_coresecref39_Valid, fun a r h => mkM_ok (T := t_coresecref39_Valid) (N := 18) (own := []) (rng := [6]) (c := (codeOf Tryd.f13)) (h := h_coresecref39_Valid) (qs := [.tmp 2]) kMix Tryd.func13 (by kernel_rfl) (by kernel_rfl) (by kernel_rfl) (by kernel_rfl) a r (Eq.trans (by kernel_rfl) h)⟩
def t_coreseclaw39_paths : Tab Tryd.prog := ⟨tes, ses, fes, bes, [], [], fds, [], qes, ges⟩
def h_coreseclaw39_paths : Hint := (.s .n (.s .n .n))

def con_coreseclaw39_paths : Con Tryd.prog := ⟨14, [.d .str], [.d (.sl .str)], ⟨Tryd.f14, Tryd.func14, by kernel_rfl, by kernel_rfl⟩, m_coreseclaw39_paths, fun a r h => mkM_ok (T := t_coreseclaw39_paths) (N := 5) (own := []) (rng := []) (c := (codeOf Tryd.f14)) (h := h_coreseclaw39_paths) (qs := [.tmp 2]) kMix Tryd.func14 (by kernel_rfl) (by kernel_rfl) (by kernel_rfl) (by kernel_rfl) a r (Eq.trans (by kernel_rfl) h)⟩
def t_coresecref39_bit : Tab Tryd.prog := ⟨tes, ses, fes, bes, [], [], fds, [], qes, ges⟩
def h_coresecref39_bit : Hint := (.s .n (.s .n .n))

def con_coresecref39_bit : Con Tryd.prog := ⟨37, [.d P_api_Permit, .d (.int .i64)], [.d .bool], ⟨Tryd.f37, Tryd.func37, by kernel_rfl, by kernel_rfl⟩, m_coresecref39_bit, fun a r h => mkM_ok (T := t_coresecref39_bit) (N := 13) (own := []) (rng := []) (c := (codeOf Tryd.f37)) (h := h_coresecref39_bit) (qs := [.tmp 4]) kMix Tryd.func37 (by kernel_rfl) (by kernel_rfl) (by kernel_rfl) (by kernel_rfl) a r (Eq.trans (by kernel_rfl) h)⟩
def t_coresecref39_under : Tab Tryd.prog := ⟨tes, ses, fes, bes, [], [], fds, [], qes, ges⟩
def h_coresecref39_under : Hint := (.s .n (.j ⟨[.d 4 .bool], []⟩ false .n .n))

def con_coresecref39_under : Con Tryd.prog := ⟨38, [.d .str, .d .str], [.d .bool], ⟨Tryd.f38, Tryd.func38, by kernel_rfl, by kernel_rfl⟩, m_coresecref39_under, fun a r h => mkM_ok (T := t_coresecref39_under) (N := 25) (own := []) (rng := []) (c := (codeOf Tryd.f38)) (h := h_coresecref39_under) (qs := [.tmp 4]) kMix Tryd.func38 (by kernel_rfl) (by kernel_rfl) (by kernel_rfl) (by kernel_rfl) a r (Eq.trans (by kernel_rfl) h)⟩
def t_coresecref39_Permits : Tab Tryd.prog := ⟨tes, ses, fes, bes, [con_coresecref39_Valid, con_coresecref39_bit, con_coresecref39_under], [], fds, [], qes, ges⟩
def h_coresecref39_Permits : Hint := (.s .n (.s (.j ⟨[.d 19 .bool], [0, 1, 2]⟩ false .n (.c (.s .n .n) .n)) (.s (.s .n (.b (.l (.a 22 21) ⟨[], [1, 2, 20, 21]⟩ (.s .n (.s (.c .n .n) (.s (.b (.s .n (.j ⟨[.d 44 .bool], [1, 2, 20, 21, 22]⟩ false .n (.c (.s .n .n) .n)))) .n)))))) (.s .n .n))))

def con_coresecref39_Permits : Con Tryd.prog := ⟨17, [.d (.sl P_api_Permit), .d .str, .d (.int .i64)], [.d .bool], ⟨Tryd.f17, Tryd.func17, by kernel_rfl, by kernel_rfl⟩, m_coresecref39_Permits, fun a r h => mkM_ok (T := t_coresecref39_Permits) (N := 46) (own := []) (rng := [21]) (c := (codeOf Tryd.f17)) (h := h_coresecref39_Permits) (qs := [.tmp 6]) kMix Tryd.func17 (by kernel_rfl) (by kernel_rfl) (by kernel_rfl) (by kernel_rfl) a r (Eq.trans (by kernel_rfl) h)⟩
def t_coreseclaw39_ScopePermits : Tab Tryd.prog := ⟨tes, ses, fes, bes, [con_coreseclaw39_light, con_coreseclaw39_awake, con_coresecmake_New, con_coresecmake2_Scope, con_scope_Valid, con_coresecref39_Valid, con_coreseclaw39_paths, con_coresecmake_Mod, con_scope_Permits, con_coresecref39_Permits], [], fds, [], qes, ges⟩
def h_coreseclaw39_ScopePermits : Hint := (.s .n (.s (.j ⟨[.d 22 .bool], [0, 1, 2, 3]⟩ false .n (.c (.s .n .n) .n)) (.s (.s .n (.b (.l (.a 30 29) ⟨[], [2, 3, 28, 29]⟩ (.s .n (.s (.c .n .n) (.s (.b (.s .n (.s (.s .n (.c (.s .n .n) .n)) (.s .n (.b (.l (.a 42 41) ⟨[], [2, 3, 10, 28, 29, 30, 40, 41]⟩ (.s .n (.s (.c .n .n) (.s (.b (.s .n (.s .n (.b (.l (.a 52 51) ⟨[], [2, 3, 10, 12, 28, 29, 30, 40, 41, 42, 50, 51]⟩ (.s .n (.s (.c .n .n) (.s (.b (.s .n (.s .n (.c (.s .n .n) .n)))) .n)))))))) .n))))))))) .n)))))) (.s .n .n))))

def con_coreseclaw39_ScopePermits : Con Tryd.prog := ⟨3, [.d (.sl P_api_Permit), .d (.sl (.int .i64)), .d .str, .d (.int .i64)], [.d .bool], ⟨Tryd.f3, Tryd.func3, by kernel_rfl, by kernel_rfl⟩, m_coreseclaw39_ScopePermits, fun a r h => mkM_ok (T := t_coreseclaw39_ScopePermits) (N := 69) (own := []) (rng := [29, 41, 51]) (c := (codeOf Tryd.f3)) (h := h_coreseclaw39_ScopePermits) (qs := [.tmp 8]) kMix Tryd.func3 (by kernel_rfl) (by kernel_rfl) (by kernel_rfl) (by kernel_rfl) a r (Eq.trans (by kernel_rfl) h)⟩
def t_coresecref39_Print : Tab Tryd.prog := ⟨tes, ses, fes, bes, [con_coresecref39_Valid, con_coresecref39_bit], [], fds, [], qes, ges⟩
def h_coresecref39_Print : Hint := (.s .n (.s (.s .n (.c (.s .n .n) .n)) (.s .n (.s (.s .n (.b (.l (.a 12 11) ⟨[.d 3 .str], [10, 11]⟩ (.s .n (.s (.c .n .n) (.j ⟨[.d 3 .str], [10, 11, 12]⟩ false (.b (.s .n (.j ⟨[.d 3 .str], [5, 10, 11, 12]⟩ false (.s .n (.c .n .n)) (.s (.s .n (.b (.l .g ⟨[.d 3 .str, .d 6 (.int .i64)], [5, 10, 11, 12]⟩ (.s (.s .n (.c .n .n)) (.j ⟨[.d 3 .str], [5, 6, 10, 11, 12]⟩ false (.b (.s .n (.c .n .n))) .n))))) (.s .n (.s .n (.c .n .n))))))) .n)))))) (.s .n .n)))))

def con_coresecref39_Print : Con Tryd.prog := ⟨18, [.d (.sl P_api_Permit)], [.d .str], ⟨Tryd.f18, Tryd.func18, by kernel_rfl, by kernel_rfl⟩, m_coresecref39_Print, fun a r h => mkM_ok (T := t_coresecref39_Print) (N := 45) (own := []) (rng := [11]) (c := (codeOf Tryd.f18)) (h := h_coresecref39_Print) (qs := [.tmp 2]) kMix Tryd.func18 (by kernel_rfl) (by kernel_rfl) (by kernel_rfl) (by kernel_rfl) a r (Eq.trans (by kernel_rfl) h)⟩
def t_coresecmake_Spoilt : Tab Tryd.prog := ⟨tes, ses, fes, bes, [con_coresecmake_Mod], [], fds, [], qes, ges⟩
def h_coresecmake_Spoilt : Hint := (.s .n (.s .n (.s (.s .n (.c (.s .n .n) .n)) (.s .n (.s (.s .n (.b (.s .n (.c .n (.s .n (.c (.s .n .n) (.s .n (.c (.s .n .n) (.s .n .n))))))))) (.s .n .n))))))

def con_coresecmake_Spoilt : Con Tryd.prog := ⟨20, [.d (.sl (.int .u8)), .d (.int .i64), .d (.int .i64)], [.d (.sl (.int .u8))], ⟨Tryd.f20, Tryd.func20, by kernel_rfl, by kernel_rfl⟩, m_coresecmake_Spoilt, fun a r h => mkM_ok (T := t_coresecmake_Spoilt) (N := 59) (own := [10, 49, 53]) (rng := []) (c := (codeOf Tryd.f20)) (h := h_coresecmake_Spoilt) (qs := [.tmp 6]) kMix Tryd.func20 (by kernel_rfl) (by kernel_rfl) (by kernel_rfl) (by kernel_rfl) a r (Eq.trans (by kernel_rfl) h)⟩
def t_coresecref39_permit : Tab Tryd.prog := ⟨tes, ses, fes, bes, [con_coresecref39_Written], [], fds, [], qes, ges⟩
def h_coresecref39_permit : Hint := (.s .n (.s .n (.s .n (.s (.s .n (.b (.l .g ⟨[.d 5 (.int .i64), .d 6 (.int .i64), .b 4 49 P_api_Permit], [0, 2, 4]⟩ (.s (.s .n (.c .n .n)) (.j ⟨[.d 5 (.int .i64), .b 4 49 P_api_Permit], [0, 2, 4, 6]⟩ false (.b (.j ⟨[.d 24 .bool], [0, 2, 4, 5, 6]⟩ false .n (.c (.s .n .n) .n))) .n))))) (.s (.j ⟨[.d 49 .bool], [0, 2, 4, 5]⟩ false .n (.c (.s .n .n) .n)) (.s .n (.j ⟨[.d 0 .str, .b 4 49 P_api_Permit], [2, 4]⟩ false (.s .n (.j ⟨[.d 65 .bool], [0, 2, 4, 7]⟩ false .n (.c .n .n))) (.s .n (.s .n .n)))))))))

def con_coresecref39_permit : Con Tryd.prog := ⟨42, [.d .str], [.d P_api_Permit, .d .bool], ⟨Tryd.f42, Tryd.func42, by kernel_rfl, by kernel_rfl⟩, m_coresecref39_permit, fun a r h => mkM_ok (T := t_coresecref39_permit) (N := 76) (own := []) (rng := []) (c := (codeOf Tryd.f42)) (h := h_coresecref39_permit) (qs := [.cell 2 49, .tmp 3]) kMix Tryd.func42 (by kernel_rfl) (by kernel_rfl) (by kernel_rfl) (by kernel_rfl) a r (Eq.trans (by kernel_rfl) h)⟩
def t_coresecref39_Parse : Tab Tryd.prog := ⟨tes, ses, fes, bes, [con_coresecref39_permit], [], fds, [], qes, ges⟩
def h_coresecref39_Parse : Hint := (.s .n (.s (.s .n (.c (.s .n .n) .n)) (.s .n (.s .n (.s (.s .n (.b (.l .g ⟨[.o 4 49 P_api_Permit, .d 5 (.int .i64), .d 6 (.int .i64)], [0]⟩ (.s (.s .n (.c .n .n)) (.j ⟨[.o 4 49 P_api_Permit, .d 5 (.int .i64), .d 6 (.int .i64)], [0]⟩ true (.b (.s (.j ⟨[.d 35 .bool], [0, 4, 5, 6]⟩ false .n (.c .n .n)) (.s .n (.s (.s .n (.c (.s .n .n) .n)) (.s .n (.s .n .n)))))) .n))))) (.s (.s .n (.c (.s .n .n) .n)) (.s .n .n)))))))

def con_coresecref39_Parse : Con Tryd.prog := ⟨22, [.d .str], [.d (.sl P_api_Permit), .d (.int .i64)], ⟨Tryd.f22, Tryd.func22, by kernel_rfl, by kernel_rfl⟩, m_coresecref39_Parse, fun a r h => mkM_ok (T := t_coresecref39_Parse) (N := 58) (own := [49]) (rng := []) (c := (codeOf Tryd.f22)) (h := h_coresecref39_Parse) (qs := [.tmp 2, .tmp 3]) kMix Tryd.func22 (by kernel_rfl) (by kernel_rfl) (by kernel_rfl) (by kernel_rfl) a r (Eq.trans (by kernel_rfl) h)⟩
def t_coresecref39_Same : Tab Tryd.prog := ⟨tes, ses, fes, bes, [], [], fds, [], qes, ges⟩
def h_coresecref39_Same : Hint := (.s .n (.s (.s .n (.c (.s .n .n) .n)) (.s (.s .n (.b (.l (.n 13 12) ⟨[], [0, 1, 12]⟩ (.s .n (.s (.c .n .n) (.s (.b (.s .n (.s .n (.c (.s .n .n) .n)))) .n)))))) (.s .n .n))))

def con_coresecref39_Same : Con Tryd.prog := ⟨23, [.d (.sl P_api_Permit), .d (.sl P_api_Permit)], [.d .bool], ⟨Tryd.f23, Tryd.func23, by kernel_rfl, by kernel_rfl⟩, m_coresecref39_Same, fun a r h => mkM_ok (T := t_coresecref39_Same) (N := 26) (own := []) (rng := []) (c := (codeOf Tryd.f23)) (h := h_coresecref39_Same) (qs := [.tmp 4]) kMix Tryd.func23 (by kernel_rfl) (by kernel_rfl) (by kernel_rfl) (by kernel_rfl) a r (Eq.trans (by kernel_rfl) h)⟩
def t_coreseclaw39_ScopeTexts : Tab Tryd.prog := ⟨tes, ses, fes, bes, [con_coreseclaw39_light, con_coreseclaw39_awake, con_coresecmake_New, con_coresecmake2_Scope, con_coresecref39_Print, con_scope_Print, con_coresecmake_Spoilt, con_scope_Parse, con_coresecref39_Parse, con_coresecref39_Same], [], fds, [], qes, ges⟩
def h_coreseclaw39_ScopeTexts : Hint := (.s .n (.s (.j ⟨[.d 30 .bool], [0, 1, 2, 3, 4]⟩ false .n (.c (.s .n .n) .n)) (.s .n (.s .n (.s (.s .n (.b (.l (.a 41 40) ⟨[], [2, 3, 4, 11, 12, 39, 40]⟩ (.s .n (.s (.c .n .n) (.s (.b (.s .n (.s .n (.c (.s .n .n) .n)))) .n)))))) (.s (.s .n (.b (.l (.a 67 66) ⟨[], [11, 12, 65, 66]⟩ (.s .n (.s (.c .n .n) (.s (.b (.s .n (.s .n (.s .n (.j ⟨[.d 89 .bool], [11, 12, 65, 66, 67]⟩ false .n (.c (.s .n .n) .n)))))) .n)))))) (.s .n (.j ⟨[.d 10 .bool], []⟩ false .n .n))))))))

def con_coreseclaw39_ScopeTexts : Con Tryd.prog := ⟨4, [.d (.sl P_api_Permit), .d (.sl (.int .i64)), .d .str, .d (.int .i64), .d (.int .i64)], [.d .bool], ⟨Tryd.f4, Tryd.func4, by kernel_rfl, by kernel_rfl⟩, m_coreseclaw39_ScopeTexts, fun a r h => mkM_ok (T := t_coreseclaw39_ScopeTexts) (N := 106) (own := []) (rng := [40, 66]) (c := (codeOf Tryd.f4)) (h := h_coreseclaw39_ScopeTexts) (qs := [.tmp 10]) kMix Tryd.func4 (by kernel_rfl) (by kernel_rfl) (by kernel_rfl) (by kernel_rfl) a r (Eq.trans (by kernel_rfl) h)⟩
end
end Go.Proofs.YtmnbkcpopfmpdaaDoor
