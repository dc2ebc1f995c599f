/-
  Bytes of a string appended to a row of the call's own. Over whatever program; no condition.
-/
import Derived.Test.YtbfkbakadpkgoaaGreatDoorYStr
import Derived.Lib.AppendStr
namespace Go.Gk
open Go.RowKit
section
variable {P : Program} {w : World}
theorem run_append_str (base : Nat) (t u ty e : TypeId) (i : TypeInfo) (ht : P.underlying t = some (.slice e)) (hu : P.underlying u = some .string) (hi : P.info? e = some i) (hz : i.zero = some (.int .u8 0))
  (hsize : i.size = 1) (hby : i.bytes = 1)
  (v : Value) (n : Nat) (xs : List Value) (hown : w.ownsRow base e 1 v n xs) (s : ByteArray)
  (h63 : n + s.size ≤ maxLen) (hbytes : n + s.size ≤ 140737488355328) (hbase : base ≤ w.heap.size) :
  ∃ v' w', (Builtin.append_ #[t, u] ty #[v, .string s]).run P w = .ok v' w' ∧ w'.ownsRow base e 1 v' (n + s.size) (xs ++ Lib.strCells s) ∧ w.grownBy w' v.ownBlock ∧
   (v'.ownBlock = v.ownBlock ∨ v'.ownBlock = some w.heap.size) := by
 have hsmall : n + s.size ≤ 9223372036854775807 := by simp only [maxLen] at h63; omega
 have hxl : xs.length = n := by simpa using hown.1
 have hlen : (xs ++ Lib.strCells s).length = (n + s.size) * 1 := by rw [List.length_append, hxl, Lib.strCells_length, Nat.mul_one]
 have grown : ∀ (old : Nat), old < n + s.size → ∀ (row : Option Nat),
   (w.drew.alloc (.cells (xs.toArray ++ (Lib.strCells s).toArray ++ Builtin.zeroCells (Value.int .u8 0).cells (grownCap w (n + s.size) old e - (n + s.size))) e)).ownsRow base e 1
    (.slice (some ⟨w.heap.size, 0, none⟩) (n + s.size) (grownCap w (n + s.size) old e)) (n + s.size) (xs ++ Lib.strCells s) ∧
   w.grownBy (w.drew.alloc (.cells (xs.toArray ++ (Lib.strCells s).toArray ++ Builtin.zeroCells (Value.int .u8 0).cells (grownCap w (n + s.size) old e - (n + s.size))) e)) row := by
  intro old ho row
  have hge := grownCap_ge w (n + s.size) old e
  have hcm : grownCap w (n + s.size) old e ≤ maxLen := grownCap_le_maxLen w (n + s.size) old e h63
  refine ⟨⟨hlen, .inr ⟨w.heap.size, _, _, rfl, hbase, heap_alloc_new w.drew _, hge, hcm, ?_, ?_⟩⟩, ⟨rfl, rfl, rfl, by simp, fun k hk _ => Go.heap_alloc_old w.drew _ hk⟩⟩
  ·have hz1 : (Value.int IntKind.u8 0).cells.size = 1 := rfl
   simp only [Array.size_append, List.size_toArray, size_zeroCells, hz1, hxl, Lib.strCells_length]
   omega
  ·simp only [Array.toList_append, List.append_assoc]
   rw [← List.append_assoc, ← hlen]
   exact List.take_left
 rcases hown.2 with ⟨rfl, rfl⟩ | ⟨g, cap, cur, rfl, hbg, hg, hnc, hcm, hcs, htake⟩
 ·have hx : xs = [] := List.eq_nil_of_length_eq_zero hxl
  subst hx
  by_cases hm : s.size = 0
  ·have hn : Lib.strCells s = [] := List.eq_nil_of_length_eq_zero (by rw [Lib.strCells_length]; exact hm)
   refine ⟨.slice none 0 0, w, ?_, by rw [hm, hn]; exact World.ownsRow_nil w base e 1, ⟨rfl, rfl, rfl, Nat.le_refl _, fun _ _ _ => rfl⟩, .inl rfl⟩
   have hf := Lib.run_firstCells_string (P := P) w 1 s
   rw [hm] at hf
   simp [Builtin.append_, run_underlying ht, run_underlying hu, sizeOf, typeInfo, hi, hsize, Builtin.lenOf, hm, hf]
  ·have hr := run_append_nil_string (P := P) w t u ty e i (.int .u8 0) ht hu hi hz s (by omega) (by omega) (by rw [hby]; omega)
   have hgr := grown 0 (by omega) (Value.ownBlock (.slice none 0 0))
   simp only [Nat.zero_add, List.nil_append, Array.empty_append] at hgr ⊢
   have e1 : (s.data.map fun b => Value.int .u8 b.toNat) = (Lib.strCells s).toArray := by
    apply Array.ext'
    simp [Lib.strCells]
   rw [e1] at hr
   exact ⟨_, _, hr, hgr.1, hgr.2, .inr rfl⟩
 ·by_cases hroom : n + s.size ≤ cap
  ·have hcs' : cur.size = cap := by simpa using hcs
   have hr := Lib.run_append_room_string (P := P) w t u ty e i ht hu hi hsize g n cap cur hg s hroom (by omega)
   refine ⟨_, _, hr, ⟨hlen, .inr ⟨g, cap, _, rfl, hbg, setRow_heap w g cur _ e _ hg, hroom, hcm, ?_, ?_⟩⟩, ⟨rfl, rfl, rfl, by simp, fun k _ hk => setRow_other w g k _ (fun e => hk (by simp [Value.ownBlock, e]))⟩, .inl rfl⟩
   ·simp only [List.size_toArray, List.length_append, List.length_take, List.length_drop, Array.length_toList, Lib.strCells_length]
    omega
   ·have ht' : cur.toList.take n = xs := by simpa using htake
    rw [ht', ← hlen]
    exact List.take_left
  ·have holds : ∀ j u, xs[j]? = some u → w.cell? ((⟨g, 0, none⟩ : Addr).add j) = some u := hown.cells (g := g) rfl
   have hr := Lib.run_append_grow_string (P := P) w t u ty e i (.int .u8 0) ht hu hi hz ⟨g, 0, none⟩ n cap xs (by rw [hsize]; simpa using hxl) holds s (by omega) (by omega) (by rw [hby]; exact growslice_fits (by omega) (by omega))
   have hgr := grown cap (by omega) (Value.ownBlock (.slice (some ⟨g, 0, none⟩) n cap))
   exact ⟨_, _, hr, hgr.1, hgr.2, .inr rfl⟩
end
section
variable {P : Program} {N : Nat} {ops : Array Oper} {rest : List Oper} {F : List (Nat × Value)} {w : World} {K : Kont} {lab : Lab} {e : Env} {nid : Nat} {a b : RA}
variable {ty : TypeId} {pos : String} {af : Array Edge} {g : Option (Nat × Bool)} {d : Nat} {x y z : Operand} {v u : Value} {α : Type} {r : α} {T U E : TypeId}
theorem strCells_flat : ∀ (l : List UInt8), (l.map fun b : UInt8 => [Value.int .u8 (b.toNat : Int)]).flatten = l.map fun b => Value.int .u8 b.toNat
 | [] => rfl
 | b :: l => by rw [List.map_cons, List.flatten_cons, strCells_flat l]; rfl
theorem strCells_of (l : List UInt8) : Lib.strCells ⟨l.toArray⟩ = (l.map fun b : UInt8 => [Value.int .u8 (b.toNat : Int)]).flatten := by
 rw [strCells_flat]; rfl
theorem alls_str (lab : Lab) (w : World) : ∀ (l : List UInt8), Alls (rep (.int .u8)) lab w (l.map fun b : UInt8 => [Value.int .u8 (b.toNat : Int)]) l
 | [] => trivial
 | b :: l => ⟨rfl, alls_str lab w l⟩
theorem run_append_own_s {oa : Option Addr} {c k nb : Nat} {xs ys : List UInt8} {zv : Value} (t : Top lab w) (hk0 : Nat.beq k 0 = false) (o : Own (rep (.int .u8)) lab w k E oa c xs) (hT : TySl P T E 1 nb zv) (hU : P.underlying U = some .string) (hz0 : zv = .int .u8 0) (hb : nb = 1) (hl : xs.length + ys.length ≤ LIM) (ty : TypeId) :
  ∃ oa2 c2 lab2 w2, (Builtin.append_ #[T, U] ty #[.slice oa xs.length c, strV ys]).run P w = .ok (.slice oa2 (xs ++ ys).length c2) w2 ∧ Ste lab k w lab2 w2 ∧ Own (rep (.int .u8)) lab2 w2 k E oa2 c2 (xs ++ ys) := by
 subst hz0 hb
 obtain ⟨css, h1, h2⟩ := o
 have hown := Own.ownsRow h2 h1
 obtain ⟨i, hi, hz, hsz, hby⟩ := hT.info
 unfold LIM at hl
 have hss : (⟨ys.toArray⟩ : ByteArray).size = ys.length := strV_size ys
 obtain ⟨v', w', hrun, hown', hg, hblk⟩ := run_append_str (P := P) 0 T U ty E i hT.und hU hi hz hsz hby _ _ _ hown ⟨ys.toArray⟩ (by rw [hss]; unfold maxLen; omega) (by rw [hss]; omega) (Nat.zero_le _)
 rw [hss, strCells_of] at hown'
 let lab2 : Lab := fun b => if b = w.heap.size ∧ w.heap.size < w'.heap.size ∧ v'.ownBlock = some b then k else lab b
 have hrow : ∀ b, b < w.heap.size → lab b ≠ k → some b ≠ (Value.slice oa xs.length c).ownBlock := fun b hb hne e => by
  rcases h2 with ⟨rfl, _⟩ | ⟨g, cur, rfl, _, _, _, _, _, h7⟩
  ·simp [Value.ownBlock] at e
  ·simp [Value.ownBlock] at e; subst e; exact hne h7
 have ste : Ste lab k w lab2 w' := by
  refine ⟨hg.os, hg.tape, hg.output, hg.size, fun b hb h => ?_, fun b hb => ?_, fun b hb => ?_⟩
  ·refine hg.block b hb ?_
   rcases h with h | h
   ·subst h; simp at hk0
   ·exact hrow b hb h
  ·simp only [lab2]; rw [if_neg (by omega)]
  ·simp only [lab2]; rw [if_neg (by omega)]; exact t b (Nat.le_trans hg.size hb)
 have hform : ∃ oa2 c2, v' = .slice oa2 (xs ++ ys).length c2 := by
  rcases hown'.2 with ⟨rfl, h0⟩ | ⟨g, cap, cur, rfl, _⟩
  ·exact ⟨none, 0, by rw [List.length_append, h0]⟩
  ·exact ⟨_, cap, by rw [List.length_append]⟩
 obtain ⟨oa2, c2, rfl⟩ := hform
 refine ⟨oa2, c2, lab2, w', hrun, ste, css ++ ys.map fun b : UInt8 => [Value.int .u8 (b.toNat : Int)], (h1.append (alls_str lab w ys)).keep ste.keeps, ?_⟩
 rcases hown'.2 with ⟨hv, h0⟩ | ⟨g, cap, cur, hv, _, hcur, hle, hmx, hsize, htake⟩
 ·injection hv with e1 e2 e3
  exact .inl ⟨e1, e3, List.eq_nil_of_length_eq_zero (by rw [List.length_append]; exact h0)⟩
 ·injection hv with e1 e2 e3
  subst e1; subst e3
  have hlen2 : List.length (α := UInt8) (xs ++ ys) = List.length (α := UInt8) xs + List.length (α := UInt8) ys := List.length_append
  refine .inr ⟨g, cur, rfl, hcur, hlen2 ▸ hle, hmx, hsize, by
   show List.take (List.length (α := UInt8) (xs ++ ys) * 1) cur.toList = _
   rw [hlen2, List.flatten_append]; exact htake, ?_⟩
  simp only [Value.ownBlock] at hblk
  have hgl : g < w'.heap.size := (Array.getElem?_eq_some_iff.1 hcur).1
  simp only [lab2, Value.ownBlock]
  rcases Nat.lt_or_ge g w.heap.size with hlt | hge
  ·rw [if_neg (by omega)]
   rcases hblk with hblk | hblk
   ·rcases h2 with ⟨rfl, _⟩ | ⟨g', cur', rfl, _, _, _, _, _, h7⟩
    ·simp at hblk
    ·simp at hblk; subst hblk; exact h7
   ·simp at hblk; omega
  ·have : g = w.heap.size := by
    rcases hblk with hblk | hblk
    ·rcases h2 with ⟨rfl, _⟩ | ⟨g', cur', rfl, hg', _, _, _, _, h7⟩
     ·simp at hblk
     ·simp at hblk; subst hblk
      have := (Array.getElem?_eq_some_iff.1 hg').1; omega
    ·simpa using hblk
   rw [if_pos ⟨this, by omega, by simp⟩]
theorem LW.appendS {oa : Option Addr} {c k nb : Nat} {xs ys : List UInt8} {zv : Value} {kk : List UInt8 → Option α} (hm : bnd (app xs ys) kk = some r) (o : Own (rep (.int .u8)) lab w k E oa c xs)
  (t : Top lab w) (hk0 : Nat.beq k 0 = false) (hT : TySl P T E 1 nb zv) (hU : P.underlying U = some .string) (hz0 : zv = .int .u8 0) (hb : nb = 1)
  (hw : Wn ops F g) (hdN : Nat.blt d N = true) (hx : ev F x = some (.slice oa xs.length c)) (hy : ev F y = some (strV ys))
  (h : ∀ zs oa2 c2 lab2 w2, kk zs = some r → Ste lab k w lab2 w2 → Own (rep (.int .u8)) lab2 w2 k E oa2 c2 zs → LW P N ops rest ((d, .slice oa2 zs.length c2) :: F) w2 K) :
  LW P N ops (⟨some d, .call { callee := .builtin .append, args := #[x, y], argTypes := #[T, U] }, ty, pos, af, g⟩ :: rest) F w K := by
 obtain ⟨zs, hz, hk⟩ := bnd_some hm
 obtain ⟨hl, rfl⟩ := app_some hz
 obtain ⟨oa2, c2, lab2, w2, hrun, hs, ho⟩ := run_append_own_s (P := P) t hk0 o hT hU hz0 hb hl ty
 exact LW.val rfl hw rfl hdN (fun a ha => by simp [execOp, resolve, invoke, builtin, ha.eval hx, ha.eval hy, hrun]) (h _ _ _ _ _ hk hs ho)
def opAppendS {P : Program} (se : SE P) (nid k0 : Nat) (owned : Bool) (a b : RA) : OpRes :=
 match asDat b, PT.eqb se.pt (.int .u8) && Nat.beq se.nb 1 with
 | some ⟨.str, ys⟩, true => match a with
  | (.nil, _) => match Nat.beq k0 0 with
   | false => .bnd (List UInt8) (app [] ys) fun zs => .ret (appOut nid k0 se.el (.int .u8) owned [k0] zs)
   | true => .stuck
  | (.own _, some (.row k E t xs)) => match Nat.beq k 0, Nat.beq E se.el, castT (.sl t) (.sl (.int .u8)) xs with
   | false, true, some xs => .bnd (List UInt8) (app xs ys) fun zs => .ret (appOut nid k se.el (.int .u8) owned [k] zs)
   | _, _, _ => .stuck
  | _ => .stuck
 | _, _ => .stuck
theorem loc_appendS {se : SE P} {out : Out} {k0 : Nat} {owned : Bool} (hT : se.id = T) (hU : P.underlying U = some .string) (hx : ev F x = some v) (hy : ev F y = some u) (hv : AOK e lab w a v) (hu : AOK e lab w b u) (hr : Res (opAppendS se nid k0 owned a b) out) (tp : Top lab w) (hw : Wn ops F g) (hd : Nat.blt d N = true) :
  LW P N ops [⟨some d, .call { callee := .builtin .append, args := #[x, y], argTypes := #[T, U] }, ty, pos, af, g⟩] F w (Fin N F e nid lab w (some d) out) := by
 subst hT
 unfold opAppendS at hr
 split at hr
 ·rename_i ys hys hse
  simp only [Bool.and_eq_true] at hse
  have hpt := PT.eqb_eq hse.1
  have hnb := Nat.eq_of_beq_eq_true hse.2
  obtain rfl := Dat.str (asDat_ok hu hys)
  have hok : TySl P se.id se.el 1 se.nb (zv se.pt) := by have := se.ok; rw [hpt] at this ⊢; exact this
  have hz0 : zv se.pt = .int .u8 0 := by rw [hpt]; rfl
  split at hr
  ·split at hr
   ·rename_i hk
    have h1 : v = .slice none 0 0 := hv.1
    subst h1
    cases hr with
    | bnd hz hr =>
     obtain rfl := hr.ret_eq
     refine LW.appendS (kk := some) ((congrArg (fun q => bnd q some) hz).trans rfl) Own.nil tp hk hok hU hz0 hnb hw hd hx hy ?_
     intro zs oa2 c2 lab2 w2 hzs hs ho
     cases hzs
     exact fin_app hs ho
   ·cases hr
  ·rename_i id k E t xs
   split at hr
   ·rename_i _ _ _ xs' hk hE hc
    obtain ⟨h0, h1⟩ := castT_some hc
    have h0' : t = .int .u8 := by injection h0
    subst h0'
    have h1 : xs = xs' := h1
    subst h1
    obtain rfl := Nat.eq_of_beq_eq_true hE
    obtain ⟨b1, b2, b3⟩ := hv.2 _ rfl
    have b1 : (e id).n = xs.length := b1
    have h2 : v = .slice (e id).oa (e id).n (e id).c := hv.1
    rw [b1] at h2
    subst h2
    cases hr with
    | bnd hz hr =>
     obtain rfl := hr.ret_eq
     refine LW.appendS (kk := some) ((congrArg (fun q => bnd q some) hz).trans rfl) b3 tp hk hok hU hz0 hnb hw hd hx hy ?_
     intro zs oa2 c2 lab2 w2 hzs hs ho
     cases hzs
     exact fin_app hs ho
   ·cases hr
  ·cases hr
 ·cases hr
end
end Go.Gk
