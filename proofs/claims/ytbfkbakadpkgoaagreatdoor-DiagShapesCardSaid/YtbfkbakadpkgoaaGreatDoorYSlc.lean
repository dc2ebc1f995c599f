/-
  The evaluator's operations on slices. Over whatever program; no condition.
-/
import Derived.Test.YtbfkbakadpkgoaaGreatDoorYMem
namespace Go.Gk
open Go.RowKit
theorem TySl.rep {P : Program} {T E nb : Nat} {z : Value} {t : PT} (h : TySl P T E (csz t) nb z) : TySl P T E (rep t).sz nb z := by rw [rep_sz]; exact h
section
variable {P : Program} {N : Nat} {ops : Array Oper} {F : List (Nat × Value)} {w w' : World} {e : Env} {lab lab' : Lab} {nid : Nat} {d : Nat} {v u : Value}
variable {ty : TypeId} {pos : String} {af : Array Edge} {g : Option (Nat × Bool)} {x y z : Operand} {T : TypeId} {a b : RA}
def asI (b : RA) : Option ((k : IntKind) × kden k) :=
 match asDat b with
 | some ⟨.int k, i⟩ => some ⟨k, i⟩
 | _ => none
theorem asI_ok {k : IntKind} {i : kden k} (h : AOK e lab w b u) (hi : asI b = some ⟨k, i⟩) : u = .int k (toI k i) := by
 unfold asI at hi
 split at hi
 ·rename_i heq
  cases hi
  exact Dat.int (asDat_ok h heq)
 ·cases hi
def opIndexD (t : PT) (a b : RA) : OpRes :=
 match asT (.sl t) a, asI b with
 | some xs, some ⟨k, i⟩ => .bnd (den t) (idx (α := den t) xs (toI k i)) fun X => .ret (o1 (.dptr t X 0))
 | _, _ => .stuck
def opIndex {P : Program} (se : SE P) (a b : RA) : OpRes :=
 match a, b with
 | (.rsl h, _), (.rix _, some (.rgi h' t _ _ (some X))) => match Nat.beq h h' && PT.eqb t se.pt with
  | true => .ret (o1 (.dptr t X 0))
  | false => .stuck
 | (.own id, some (.row _ E t xs)), b => match PT.eqb t se.pt && Nat.beq E se.el, asI b with
  | true, some ⟨k, i⟩ => .bnd (den t) (idx xs (toI k i)) fun _ => .ret (o1 (.eptr id (toI k i).toNat 0))
  | _, _ => .stuck
 | a, b => opIndexD se.pt a b
theorem loc_indexD {se : SE P} {out : Out} (hT : se.id = T) (hx : ev F x = some v) (hy : ev F y = some u) (hv : AOK e lab w a v) (hu : AOK e lab w b u) (hr : Res (opIndexD se.pt a b) out) (tp : Top lab w) (hw : Wn ops F g) (hd : Nat.blt d N = true) :
  LW P N ops [⟨some d, .indexAddr T x y, ty, pos, af, g⟩] F w (Fin N F e nid lab w (some d) out) := by
 subst hT
 unfold opIndexD at hr
 split at hr
 ·rename_i xs k i hxs hi
  obtain ⟨oa, c, rfl, s⟩ := Dat.sl (asT_ok hv hxs)
  obtain rfl := asI_ok hu hi
  cases hr with
  | bnd hX hr =>
   obtain rfl := hr.ret_eq
   refine LW.index (k := some) (by rw [hX]; rfl) s se.ok.rep hw hd hx hy fun q p cs hq hrd hat => fin_val tp ?_
   cases hq
   exact ⟨p, cs, by rw [add_zero'], hat, hrd⟩
 ·cases hr
theorem loc_index {se : SE P} {out : Out} (hT : se.id = T) (hx : ev F x = some v) (hy : ev F y = some u) (hv : AOK e lab w a v) (hu : AOK e lab w b u) (hr : Res (opIndex se a b) out) (tp : Top lab w) (hw : Wn ops F g) (hd : Nat.blt d N = true) :
  LW P N ops [⟨some d, .indexAddr T x y, ty, pos, af, g⟩] F w (Fin N F e nid lab w (some d) out) := by
 unfold opIndex at hr
 split at hr
 ·rename_i h m id h' t xs k X
  split at hr
  ·rename_i hb
   simp only [Bool.and_eq_true] at hb
   obtain rfl := Nat.eq_of_beq_eq_true hb.1
   have hpt := PT.eqb_eq hb.2
   subst hT
   obtain rfl := hr.ret_eq
   obtain ⟨oa, c, h1, h2⟩ := hv.1
   obtain ⟨q1, q2, q3, q4, q5⟩ := hu.2 _ rfl
   have hu1 : u = .int .i64 ((e id).n : Int) := hu.1
   have q1 : (e id).n = k := q1
   rw [q1] at hu1
   have hl := sig_len q2
   have h2' := sig_sl q2 h2
   rw [hl] at h1
   subst h1 hu1
   have hi : idx xs ((k : Nat) : Int) = some X := (by unfold idx; rw [if_pos (by omega)]; simpa using q3)
   have hsz : TySl P se.id se.el (rep t).sz se.nb (zv se.pt) := by rw [hpt]; exact se.ok.rep
   refine LW.index (k := some) (by rw [hi]; rfl) h2' hsz hw hd hx hy fun q p cs hq hrd hat => fin_val tp ?_
   cases hq
   exact ⟨p, cs, by rw [add_zero'], hat, hrd⟩
  ·cases hr
 ·rename_i id m E t xs
  split at hr
  ·rename_i k i hb hi
   simp only [Bool.and_eq_true] at hb
   have hpt := PT.eqb_eq hb.1
   obtain rfl := Nat.eq_of_beq_eq_true hb.2
   subst hT
   obtain rfl := asI_ok hu hi
   cases hr with
   | bnd hX hr =>
    obtain rfl := hr.ret_eq
    obtain ⟨b1, b2, b3⟩ := hv.2 _ rfl
    have b1 : (e id).n = xs.length := b1
    have b2 : (e id).sz = csz t := b2
    have h1 : v = .slice (e id).oa (e id).n (e id).c := hv.1
    rw [b1] at h1
    subst h1
    have hsz : TySl P se.id se.el (rep t).sz se.nb (zv se.pt) := by rw [hpt]; exact se.ok.rep
    refine LW.indexO (k := some) (by rw [hX]; rfl) b3 hsz hw hd hx hy fun q p cs hq hrd hat hxs hp => fin_val tp ?_
    refine ⟨p, ?_, by rw [add_zero']⟩
    rw [b2, ← rep_sz]; exact hp
  ·cases hr
 ·exact loc_indexD hT hx hy hv hu hr tp hw hd
def cutS (t : PT) (xs : List (den t)) (lo hi : Option ((k : IntKind) × kden k)) : OpRes :=
 match lo, hi with
 | some ⟨k, i⟩, some ⟨k', j⟩ => .bnd (List (den t)) (cut xs (toI k i) (toI k' j)) fun zs => .ret (o1 (.dat (.sl t) zs))
 | some ⟨k, i⟩, none => .bnd (List (den t)) (cut xs (toI k i) (xs.length : Int)) fun zs => .ret (o1 (.dat (.sl t) zs))
 | none, some ⟨k', j⟩ => .bnd (List (den t)) (cut xs 0 (toI k' j)) fun zs => .ret (o1 (.dat (.sl t) zs))
 | none, none => .stuck
def opSlice {P : Program} (se : SE P) (nid : Nat) (a : RA) (lo hi : Option ((k : IntKind) × kden k)) : OpRes :=
 match a with
 | (.own _, some (.row q E t xs)) => match PT.eqb t se.pt && Nat.beq E se.el, lo, hi with
  | true, none, some ⟨k', j⟩ => .bnd (List (den t)) (cut xs 0 (toI k' j)) fun zs => .ret ⟨.own nid, [], [(nid, .row q E t zs)], []⟩
  | true, some ⟨k, i⟩, none => .bnd (List (den t)) (cut xs (toI k i) (xs.length : Int)) fun zs => .ret ⟨.own nid, [], [(nid, .src q t zs)], []⟩
  | _, _, _ => .stuck
 | a => match asT (.sl se.pt) a with
  | some xs => cutS se.pt xs lo hi
  | none => .stuck
def OpI (F : List (Nat × Value)) (y : Option Operand) (i : Option ((k : IntKind) × kden k)) : Prop :=
 match y, i with
 | none, none => True
 | some y, some ⟨k, j⟩ => ev F y = some (.int k (toI k j))
 | _, _ => False
theorem loc_slice {se : SE P} {out : Out} {lo hi : Option Operand} {i j : Option ((k : IntKind) × kden k)} (hT : se.id = T) (hx : ev F x = some v) (hlo : OpI F lo i) (hhi : OpI F hi j) (hv : AOK e lab w a v) (hr : Res (opSlice se nid a i j) out) (tp : Top lab w) (hw : Wn ops F g) (hd : Nat.blt d N = true) :
  LW P N ops [⟨some d, .slice T x lo hi none, ty, pos, af, g⟩] F w (Fin N F e nid lab w (some d) out) := by
 subst hT
 unfold opSlice at hr
 split at hr
 ·rename_i id q E t xs
  obtain ⟨b1, b2, b3⟩ := hv.2 _ rfl
  have b1 : (e id).n = xs.length := b1
  have b2 : (e id).sz = csz t := b2
  have h1 : v = .slice (e id).oa (e id).n (e id).c := hv.1
  rw [b1] at h1
  subst h1
  split at hr
  ·rename_i k' jj hb
   simp only [Bool.and_eq_true] at hb
   have hpt := PT.eqb_eq hb.1
   obtain rfl := Nat.eq_of_beq_eq_true hb.2
   have hsz : TySl P se.id se.el (rep t).sz se.nb (zv se.pt) := by rw [hpt]; exact se.ok.rep
   cases lo with
   | some _ => exact hlo.elim
   | none =>
   cases hi with
   | none => exact hhi.elim
   | some hi =>
   cases hr with
   | bnd hz hr =>
    obtain rfl := hr.ret_eq
    refine LW.slice_hO (kk := some) (by rw [hz]; rfl) b3 hsz hw hd hx hhi fun zs hzs ho => LW.nil fun q hq => ?_
    obtain rfl := Option.some.inj hzs
    refine ⟨rfl, upE e nid ⟨(e id).oa, zs.length, (e id).c, csz t, 0, .un, []⟩, lab, _, hq, fun _ hi => upE_out hi, Stp.refl tp, ?_, fun p hp => ?_, fun p hp => by simp at hp⟩
    ·show _ = Value.slice _ _ _
     rw [upE_eq]; rfl
    ·simp at hp; subst hp
     show MemOK _ _ _ _ (.row _ _ _ _)
     simp only [MemOK, upE_eq]
     exact ⟨trivial, trivial, ho⟩
  ·rename_i k ii hb
   simp only [Bool.and_eq_true] at hb
   have hpt := PT.eqb_eq hb.1
   obtain rfl := Nat.eq_of_beq_eq_true hb.2
   have hsz : TySl P se.id se.el (rep t).sz se.nb (zv se.pt) := by rw [hpt]; exact se.ok.rep
   cases lo with
   | none => exact hlo.elim
   | some lo =>
   cases hi with
   | some _ => exact hhi.elim
   | none =>
   cases hr with
   | bnd hz hr =>
    obtain rfl := hr.ret_eq
    refine LW.slice_lO (kk := some) (by rw [hz]; rfl) b3 hsz hw hd hx hlo fun zs oa' c' hzs ho => LW.nil fun q hq => ?_
    obtain rfl := Option.some.inj hzs
    refine ⟨rfl, upE e nid ⟨oa', zs.length, c', 0, 0, .un, []⟩, lab, _, hq, fun _ hi => upE_out hi, Stp.refl tp, ?_, fun p hp => ?_, fun p hp => by simp at hp⟩
    ·show _ = Value.slice _ _ _
     rw [upE_eq]
    ·simp at hp; subst hp
     show MemOK _ _ _ _ (.src _ _ _)
     simp only [MemOK, upE_eq]
     exact ⟨trivial, ho⟩
  ·cases hr
 ·split at hr
  ·rename_i xs hxs
   obtain ⟨oa, c, rfl, s⟩ := Dat.sl (asT_ok hv hxs)
   unfold cutS at hr
   split at hr
   ·rename_i k ii k' jj
    cases lo with
    | none => exact hlo.elim
    | some lo =>
    cases hi with
    | none => exact hhi.elim
    | some hi =>
    cases hr with
    | bnd hz hr =>
     obtain rfl := hr.ret_eq
     refine LW.slice_lh (k := some) (by rw [hz]; rfl) s se.ok.rep hw hd hx hlo hhi ?_
     intro zs oa' c' hzs s'
     cases hzs
     exact fin_val tp (Dat.ofSl s')
   ·rename_i k ii
    cases lo with
    | none => exact hlo.elim
    | some lo =>
    cases hi with
    | some _ => exact hhi.elim
    | none =>
    cases hr with
    | bnd hz hr =>
     obtain rfl := hr.ret_eq
     refine LW.slice_l (k := some) (by rw [hz]; rfl) s se.ok.rep hw hd hx hlo ?_
     intro zs oa' c' hzs s'
     cases hzs
     exact fin_val tp (Dat.ofSl s')
   ·rename_i k' jj
    cases lo with
    | some _ => exact hlo.elim
    | none =>
    cases hi with
    | none => exact hhi.elim
    | some hi =>
    cases hr with
    | bnd hz hr =>
     obtain rfl := hr.ret_eq
     refine LW.slice_h (k := some) (by rw [hz]; rfl) s se.ok.rep hw hd hx hhi ?_
     intro zs oa' c' hzs s'
     cases hzs
     exact fin_val tp (Dat.ofSl s')
   ·cases hr
  ·cases hr
def opLen {P : Program} (se : SE P) (nid : Nat) (rngd : Bool) (s : Option Nat) (a : RA) : OpRes :=
 match a with
 | (.own _, some (.row _ _ _ xs)) => .ret (o1 (.dat (.int .i64) (xs.length : Int)))
 | (.own _, some (.src _ _ xs)) => .ret (o1 (.dat (.int .i64) (xs.length : Int)))
 | a => match asT (.sl se.pt) a with
  | none => .stuck
  | some xs => match rngd, s with
   | true, some s => .ret ⟨.rlen nid, [], [(nid, .rgh se.pt xs)], [(s, .rsl nid)]⟩
   | true, none => .stuck
   | false, _ => .ret (o1 (.dat (.int .i64) (List.length (α := den se.pt) xs : Int)))
theorem loc_len {se : SE P} {out : Out} {rngd : Bool} {s : Option Nat} (hT : se.id = T) (hs : ∀ i, s = some i → x = .tmp i) (hx : ev F x = some v) (hv : AOK e lab w a v) (hr : Res (opLen se nid rngd s a) out) (tp : Top lab w) (hw : Wn ops F g) (hd : Nat.blt d N = true) :
  LW P N ops [⟨some d, .call { callee := .builtin .len, args := #[x], argTypes := #[T] }, ty, pos, af, g⟩] F w (Fin N F e nid lab w (some d) out) := by
 subst hT
 unfold opLen at hr
 split at hr
 ·rename_i id q E t xs
  obtain rfl := hr.ret_eq
  obtain ⟨b1, _⟩ := hv.2 _ rfl
  have b1 : (e id).n = xs.length := b1
  have h1 : v = .slice (e id).oa (e id).n (e id).c := hv.1
  rw [b1] at h1; subst h1
  exact LW.len se.ok.und hw hd hx (fin_val tp (Dat.ofInt (k := .i64) _))
 ·rename_i id q t xs
  obtain rfl := hr.ret_eq
  obtain ⟨b1, _⟩ := hv.2 _ rfl
  have b1 : (e id).n = xs.length := b1
  have h1 : v = .slice (e id).oa (e id).n (e id).c := hv.1
  rw [b1] at h1; subst h1
  exact LW.len se.ok.und hw hd hx (fin_val tp (Dat.ofInt (k := .i64) _))
 ·split at hr
  ·cases hr
  ·rename_i xs hxs
   obtain ⟨oa, c, rfl, sl⟩ := Dat.sl (asT_ok hv hxs)
   split at hr
   ·rename_i i
    obtain rfl := hr.ret_eq
    obtain rfl := hs i rfl
    refine LW.len se.ok.und hw hd hx (LW.nil fun q hq => ?_)
    refine ⟨rfl, upE e nid ⟨none, 0, 0, 0, 0, se.pt, xs⟩, lab, _, hq, fun _ hi => upE_out hi, Stp.refl tp, ?_, fun p hp => ?_, fun p hp => ?_⟩
    ·show _ = Value.int _ _
     rw [upE_eq]
    ·simp at hp; subst hp
     show _ ∧ _
     rw [upE_eq]
     exact ⟨rfl, sl.le⟩
    ·simp at hp; subst hp
     intro q hq
     have hx' : look F i = some (.slice oa (List.length (α := den se.pt) xs) c) := hx
     rw [hx'] at hq
     cases hq
     show ∃ oa c, _ ∧ _
     rw [upE_eq]
     exact ⟨oa, c, rfl, sl⟩
   ·cases hr
   ·obtain rfl := hr.ret_eq
    exact LW.len se.ok.und hw hd hx (fin_val tp (Dat.ofInt (k := .i64) _))
def rowL (b : RA) : Option ((t : PT) × List (den t)) :=
 match b with
 | (.own _, some (.row _ _ t xs)) => some ⟨t, xs⟩
 | (.own _, some (.src _ t xs)) => some ⟨t, xs⟩
 | _ => none
def srcT (t : PT) (b : RA) : Option (List (den t)) :=
 match rowL b with
 | some ⟨t', xs⟩ => castT (.sl t') (.sl t) xs
 | none => asT (.sl t) b
theorem rowL_ok {t : PT} {ys : List (den t)} (h : AOK e lab w b u) (hb : rowL b = some ⟨t, ys⟩) : ∃ oa c, u = .slice oa ys.length c ∧ Flat (rep t) lab w oa ys := by
 unfold rowL at hb
 split at hb
 ·rename_i id q E t' xs
  cases hb
  obtain ⟨b1, b2, b3⟩ := h.2 _ rfl
  have b1 : (e id).n = ys.length := b1
  have h2 : u = .slice (e id).oa (e id).n (e id).c := h.1
  rw [b1] at h2
  exact ⟨_, _, h2, b3.flat⟩
 ·rename_i id q t' xs
  cases hb
  obtain ⟨b1, b3⟩ := h.2 _ rfl
  have b1 : (e id).n = ys.length := b1
  have h2 : u = .slice (e id).oa (e id).n (e id).c := h.1
  rw [b1] at h2
  exact ⟨_, _, h2, b3.flat⟩
 ·cases hb
theorem srcT_ok {t : PT} {ys : List (den t)} (h : AOK e lab w b u) (hb : srcT t b = some ys) : ∃ oa c, u = .slice oa ys.length c ∧ Flat (rep t) lab w oa ys := by
 unfold srcT at hb
 split at hb
 ·rename_i t' xs heq
  obtain ⟨h0, h1⟩ := castT_some hb
  injection h0 with h0
  subst h0
  have h1 : xs = ys := h1
  subst h1
  exact rowL_ok h heq
 ·obtain ⟨oa, c, h1, s⟩ := Dat.sl (asT_ok h hb)
  exact ⟨oa, c, h1, s.flat'⟩
def appOut (nid k E : Nat) (t : PT) (owned : Bool) (ks : List Nat) (zs : List (den t)) : Out :=
 match owned with
 | true => ⟨.own nid, ks, [(nid, .row k E t zs)], []⟩
 | false => ⟨.dat (.sl t) zs, ks, [], []⟩
def opAppend {P : Program} (se : SE P) (nid k0 : Nat) (owned : Bool) (a b : RA) : OpRes :=
 match srcT se.pt b with
 | none => .stuck
 | some ys => match a with
  | (.nil, _) => match Nat.beq k0 0 with
   | false => .bnd (List (den se.pt)) (app [] ys) fun zs => .ret (appOut nid k0 se.el se.pt owned [k0] zs)
   | true => .stuck
  | (.own _, some (.row k E t xs)) => match Nat.beq k 0, Nat.beq E se.el, castT (.sl t) (.sl se.pt) xs with
   | false, true, some xs => .bnd (List (den se.pt)) (app xs ys) fun zs => .ret (appOut nid k se.el se.pt owned [k] zs)
   | _, _, _ => .stuck
  | _ => .stuck
theorem fin_app {t : PT} {k E c : Nat} {oa : Option Addr} {owned : Bool} {zs : List (den t)} {lab2 : Lab} {w2 : World} (hs : Ste lab k w lab2 w2) (ho : Own (rep t) lab2 w2 k E oa c zs) :
  LW P N ops [] ((d, .slice oa zs.length c) :: F) w2 (Fin N F e nid lab w (some d) (appOut nid k E t owned [k] zs)) := LW.nil fun q hq => by
 have hks : ([k] : List Nat).contains k = true := by simp
 cases owned with
 | true =>
  refine ⟨rfl, upE e nid ⟨oa, zs.length, c, csz t, 0, .un, []⟩, lab2, _, hq, fun _ hi => upE_out hi, hs.stp (.inl hks), ?_, fun p hp => ?_, fun p hp => by simp [appOut] at hp⟩
  ·show _ = Value.slice _ _ _
   rw [upE_eq]
  ·simp [appOut] at hp; subst hp
   show MemOK _ _ _ _ (.row _ _ _ _)
   simp only [MemOK, upE_eq]
   exact ⟨trivial, trivial, ho⟩
 | false =>
  refine ⟨rfl, e, Gk.mask lab2 k, _, hq, fun _ _ => rfl, (hs.stp (.inl hks)).trans (Stp.mask hs.top hks), Dat.ofSl ho.view, fun p hp => by simp [appOut] at hp, fun p hp => by simp [appOut] at hp⟩
theorem loc_append {se : SE P} {out : Out} {k0 : Nat} {owned : Bool} (hT : se.id = T) (hx : ev F x = some v) (hy : ev F y = some u) (hv : AOK e lab w a v) (hu : AOK e lab w b u) (hr : Res (opAppend se nid k0 owned a b) out) (tp : Top lab w) (hw : Wn ops F g) (hd : Nat.blt d N = true) :
  LW P N ops [⟨some d, .call { callee := .builtin .append, args := #[x, y], argTypes := #[T, T] }, ty, pos, af, g⟩] F w (Fin N F e nid lab w (some d) out) := by
 subst hT
 unfold opAppend at hr
 split at hr
 ·cases hr
 rename_i ys hys
 obtain ⟨oa', c', rfl, hfl⟩ := srcT_ok hu hys
 split at hr
 ·split at hr
  ·rename_i hk
   have h1 : v = .slice none 0 0 := hv.1
   subst h1
   cases hr with
   | bnd hz hr =>
    obtain rfl := hr.ret_eq
    refine LW.append (kk := some) (by rw [hz]; rfl) Own.nil hfl tp hk se.ok.rep se.hb hw hd hx hy ?_
    intro zs oa2 c2 lab2 w2 hzs hs ho
    cases hzs
    exact fin_app hs ho
  ·cases hr
 ·rename_i id k E t xs
  split at hr
  ·rename_i _ _ _ xs' hk hE hc
   obtain ⟨h0, h1⟩ := castT_some hc
   have h0' : t = se.pt := by injection h0
   subst h0'
   have h1 : xs = xs' := h1
   subst h1
   obtain rfl := Nat.eq_of_beq_eq_true hE
   obtain ⟨b1, b2, b3⟩ := hv.2 _ rfl
   have b1 : (e id).n = xs.length := b1
   have h2 : v = .slice (e id).oa (e id).n (e id).c := hv.1
   rw [b1] at h2
   subst h2
   cases hr with
   | bnd hz hr =>
    obtain rfl := hr.ret_eq
    refine LW.append (kk := some) (by rw [hz]; rfl) b3 hfl tp hk se.ok.rep se.hb hw hd hx hy ?_
    intro zs oa2 c2 lab2 w2 hzs hs ho
    cases hzs
    exact fin_app hs ho
  ·cases hr
 ·cases hr
theorem LW.slice_hm {β : Type} {α : Type} {r : α} {ρ : Rep β} {oa : Option Addr} {c E nb : Nat} {zv : Value} {xs ys : List β} {lab : Lab} {hi mx : Int} {kh km : IntKind} {rest : List Oper} {K : Kont} {k : List β → Option α} (hm : cut xs 0 mx = some ys) (hm2 : bnd (cut ys 0 hi) k = some r) (s : SL ρ lab w oa c xs) (hT : TySl P T E ρ.sz nb zv) (hw : Wn ops F g) (hdN : Nat.blt d N = true) (hx : ev F x = some (.slice oa xs.length c)) (hz : ev F z = some (.int kh hi)) (hy : ev F y = some (.int km mx))
  (h : ∀ zs oa' c', k zs = some r → SL ρ lab w oa' c' zs → LW P N ops rest ((d, .slice oa' zs.length c') :: F) w K) : LW P N ops (⟨some d, .slice T x none (some z) (some y), ty, pos, af, g⟩ :: rest) F w K := by
 obtain ⟨zs, hz', hk⟩ := bnd_some hm2
 obtain ⟨⟨h1, h2, h3⟩, rfl⟩ := cut_some hm
 obtain ⟨⟨h4, h5, h6⟩, rfl⟩ := cut_some hz'
 have hc := s.1
 have hl : ((xs.take mx.toNat).drop (0 : Int).toNat).length = mx.toNat := by simp; omega
 rw [hl] at h6
 have e0 : ((((xs.take mx.toNat).drop (0 : Int).toNat).take hi.toNat).drop (0 : Int).toNat) = xs.take hi.toNat := by
  simp only [Int.toNat_zero, List.drop_zero, List.take_take]
  rw [Nat.min_eq_left (by omega)]
 rw [e0] at hk
 have hlen : (xs.take hi.toNat).length = hi.toNat := by rw [List.length_take]; omega
 have s' : SL ρ lab w oa mx.toNat (xs.take hi.toNat) := by
  refine ⟨by rw [hlen]; omega, by have := s.2.1; omega, fun i e he => ?_⟩
  have hi' : i < hi.toNat := by
   have := (List.getElem?_eq_some_iff.1 he).1
   omega
  rw [List.getElem?_take_of_lt hi'] at he
  exact s.2.2 i e he
 have hE := hT.elem
 refine LW.val rfl hw rfl hdN (fun a ha => ?_) (h _ _ _ hk s')
 have := run_slice_hm (P := P) w T oa xs.length c hE.1 kh km hi mx (by omega) (by omega) (by omega)
 simp only [execOp, ha.eval hx, Option.map_some, Option.map_none, ha.eval hz, ha.eval hy, run_sliceAt_slice w T _ _ _ _ hE.1, this, hE.2, hT.sizeOf, Sem.run_bind, Result.andThen_ok, Sem.run_pure, sliced, hlen]
 have : (oa.map fun x => x.add (0 * ρ.sz)) = oa := by
  cases oa with
  | none => rfl
  | some q => rw [Option.map_some, Nat.zero_mul, add_zero']
 rw [this]
 split <;> rfl
def opSlice3 {P : Program} (se : SE P) (a b c : RA) : OpRes :=
 match asT (.sl se.pt) a, asI b, asI c with
 | some xs, some ⟨k, i⟩, some ⟨k', j⟩ => .bnd (List (den se.pt)) (cut xs 0 (toI k' j)) fun ys => .bnd (List (den se.pt)) (cut ys 0 (toI k i)) fun zs => .ret (o1 (.dat (.sl se.pt) zs))
 | _, _, _ => .stuck
theorem loc_slice3 {se : SE P} {out : Out} {b c : RA} {u1 u2 : Value} (hT : se.id = T) (hx : ev F x = some v) (hz : ev F z = some u1) (hy : ev F y = some u2) (hv : AOK e lab w a v) (hu1 : AOK e lab w b u1) (hu2 : AOK e lab w c u2) (hr : Res (opSlice3 se a b c) out) (tp : Top lab w) (hw : Wn ops F g) (hd : Nat.blt d N = true) :
  LW P N ops [⟨some d, .slice T x none (some z) (some y), ty, pos, af, g⟩] F w (Fin N F e nid lab w (some d) out) := by
 subst hT
 unfold opSlice3 at hr
 split at hr
 ·rename_i xs k i k' j hxs hi hj
  obtain ⟨oa, c', rfl, s⟩ := Dat.sl (asT_ok hv hxs)
  obtain rfl := asI_ok hu1 hi
  obtain rfl := asI_ok hu2 hj
  cases hr with
  | bnd hys hr =>
   cases hr with
   | bnd hzs hr =>
    obtain rfl := hr.ret_eq
    refine LW.slice_hm (k := some) hys (by rw [hzs]; rfl) s se.ok.rep hw hd hx hz hy ?_
    intro zs oa' c'' hz s'
    cases hz
    exact fin_val tp (Dat.ofSl s')
 ·cases hr
structure GE (P : Program) where
 id : TypeId
 gl : Nat
 pt : PT
 xs : List (den pt)
 el : TypeId
 und : P.underlying id = some (.array xs.length el)
 sz : ∀ w, (Go.sizeOf el).run P w = .ok (csz pt) w
 hg : gl ∈ gls
 ag : Bool
 agk : ag = true → TyAgg P id xs.length ∧ csz pt = 1 ∧ aggT pt = false ∧ TyOne P el
 cells : ∀ w0, GF w0 → ∀ i x, xs[i]? = some x → ∃ cs : List Value, (∀ lab w, (rep pt).rd lab w cs x) ∧ ∀ j u, cs[j]? = some u → w0.cell? ⟨gl, i * csz pt + j, none⟩ = some u
def findGE {P : Program} : List (GE P) → TypeId → Nat → Option (GE P)
 | [], _, _ => none
 | e :: r, T, g => match Nat.beq e.id T && Nat.beq e.gl g with
  | true => some e
  | false => findGE r T g
theorem findGE_id {P : Program} : ∀ {l : List (GE P)} {T : TypeId} {g : Nat} {e : GE P}, findGE l T g = some e → e.id = T ∧ e.gl = g
 | [], _, _, _, h => by cases h
 | q :: r, T, g, e, h => by
  unfold findGE at h
  split at h
  ·rename_i hb; cases h
   simp only [Bool.and_eq_true] at hb
   exact ⟨Nat.eq_of_beq_eq_true hb.1, Nat.eq_of_beq_eq_true hb.2⟩
  ·exact findGE_id h
def glbOf : Operand → Option Nat
 | .global g => some g
 | _ => none
theorem glbOf_eq {x : Operand} {n : Nat} (h : glbOf x = some n) : x = .global n := by cases x <;> cases h; rfl
def opIndexG {P : Program} (ge : GE P) (b : RA) : OpRes :=
 match asI b with
 | some ⟨k, i⟩ => .bnd (den ge.pt) (idx (α := den ge.pt) ge.xs (toI k i)) fun X => .ret (o1 (.dptr ge.pt X 0))
 | none => .stuck
theorem loc_indexG {ge : GE P} {out : Out} {b : RA} (gl : GL lab w) (hy : ev F y = some u) (hu : AOK e lab w b u) (hr : Res (opIndexG ge b) out) (tp : Top lab w) (hw : Wn ops F g) (hd : Nat.blt d N = true) :
  LW P N ops [⟨some d, .indexAddr ge.id (.global ge.gl) y, ty, pos, af, g⟩] F w (Fin N F e nid lab w (some d) out) := by
 unfold opIndexG at hr
 split at hr
 ·rename_i k i hi
  obtain rfl := asI_ok hu hi
  cases hr with
  | bnd hX hr =>
   rename_i X
   obtain rfl := hr.ret_eq
   unfold idx at hX
   split at hX
   ·rename_i h0
    have hlt : (toI k i).toNat < ge.xs.length := (List.getElem?_eq_some_iff.1 hX).1
    have hlt' : toI k i < (ge.xs.length : Int) := by omega
    obtain ⟨w0, hF, hG⟩ := gl
    obtain ⟨cs, h1, h2⟩ := ge.cells w0 hF _ X hX
    obtain ⟨g1, g2, g3⟩ := hG _ ge.hg
    have hx : ev F (.global ge.gl) = some (.pointer (some ⟨ge.gl, 0, none⟩)) := rfl
    refine LW.val (v := .pointer (some ((⟨ge.gl, 0, none⟩ : Addr).add ((toI k i).toNat * csz ge.pt)))) rfl hw rfl hd (fun a ha => ?_) (fin_val tp ⟨(⟨ge.gl, 0, none⟩ : Addr).add ((toI k i).toNat * csz ge.pt), cs, by rw [add_zero'], fun j v hj => ?_, h1 lab w⟩)
    ·simp [execOp, ha.eval hx, ha.eval hy, Instr.indexAt, Instr.sureAddr, asIntOf, run_underlying ge.und, h0, hlt', ge.sz]
    ·refine ⟨by rw [block_add]; exact g2, ?_⟩
     rw [add_add', add_lit0, Nat.zero_add, World.cell?_of_block (w := w0) (a := ⟨ge.gl, _, none⟩) g3]
     exact h2 j v hj
   ·cases hX
 ·cases hr
def opLoadG {P : Program} (ge : GE P) : OpRes := match ge.ag with
 | true => .ret (o1 (.garr ge.pt ge.xs))
 | false => .stuck
theorem all2_cells {ge : GE P} (hag : csz ge.pt = 1 ∧ aggT ge.pt = false) {w0 : World} (hF : GF w0) (lab : Lab) (w : World) : ∀ (n : Nat), n ≤ ge.xs.length → ∃ us : List Value, us.length = n ∧ All2 (fun x u => Dat ge.pt x lab w u) (ge.xs.take n) us ∧ ∀ i u, us[i]? = some u → w0.cell? ⟨ge.gl, i, none⟩ = some u := by
 intro n
 induction n with
 | zero => intro _; exact ⟨[], rfl, by rw [List.take_zero]; exact .nil, fun i u h => by simp at h⟩
 | succ n ih =>
  intro hn
  obtain ⟨us, h1, h2, h3⟩ := ih (by omega)
  obtain ⟨cs, h4, h5⟩ := ge.cells w0 hF n ge.xs[n] (List.getElem?_eq_getElem (by omega))
  have hl : cs.length = 1 := by rw [(rep ge.pt).len (h4 lab w), rep_sz, hag.1]
  obtain ⟨u, rfl⟩ := List.length_eq_one_iff.1 hl
  refine ⟨us ++ [u], by simp [h1], ?_, fun i v hi => ?_⟩
  ·rw [List.take_succ_eq_append_getElem (by omega)]
   refine h2.append (.cons ⟨[u], h4 lab w, ?_⟩ .nil)
   unfold IsV; rw [hag.2]
  ·rcases Nat.lt_or_ge i us.length with hlt | hge
   ·rw [List.getElem?_append_left hlt] at hi
    exact h3 i v hi
   ·rw [List.getElem?_append_right hge] at hi
    have h0 : i - us.length = 0 := by
     rcases Nat.eq_zero_or_pos (i - us.length) with h | h
     ·exact h
     ·rw [List.getElem?_eq_none (by simp; omega)] at hi; cases hi
    have hin : i = n := by omega
    subst hin
    rw [h0] at hi
    have := h5 0 v hi
    rw [hag.1, Nat.mul_one, Nat.add_zero] at this
    exact this
theorem loc_loadG {ge : GE P} {out : Out} (gl : GL lab w) (hr : Res (opLoadG ge) out) (tp : Top lab w) (hw : Wn ops F g) (hd : Nat.blt d N = true) :
  LW P N ops [⟨some d, .load ge.id (.global ge.gl), ty, pos, af, g⟩] F w (Fin N F e nid lab w (some d) out) := by
 unfold opLoadG at hr
 split at hr
 ·rename_i ha
  obtain rfl := hr.ret_eq
  obtain ⟨k1, k2, k3, _⟩ := ge.agk ha
  obtain ⟨w0, hF, hG⟩ := gl
  obtain ⟨g1, g2, g3⟩ := hG _ ge.hg
  obtain ⟨us, h1, h2, h3⟩ := all2_cells (ge := ge) ⟨k2, k3⟩ hF lab w ge.xs.length (Nat.le_refl _)
  rw [List.take_length] at h2
  have hat : At lab w ⟨ge.gl, 0, none⟩ us := fun j u hj => ⟨g2, by rw [add_lit0, Nat.zero_add, World.cell?_of_block (w := w0) (a := ⟨ge.gl, _, none⟩) g3]; exact h3 j u hj⟩
  exact LW.loadAn hat k1 (by rw [h1]; exact Nat.beq_refl _) hw hd rfl (fin_val (sv := .garr ge.pt ge.xs) tp ⟨us, rfl, h2⟩)
 ·cases hr
theorem GE1 {P : Program} (ge : GE P) (h : ge.ag = true) {w : World} : (Go.sizeOf ge.el).run P w = .ok 1 w := by
 obtain ⟨_, h1, _⟩ := ge.agk h
 rw [ge.sz w, h1]
def findGT {P : Program} : List (GE P) → TypeId → Option (GE P)
 | [], _ => none
 | e :: r, T => match Nat.beq e.id T && e.ag with
  | true => some e
  | false => findGT r T
theorem findGT_id {P : Program} : ∀ {l : List (GE P)} {T : TypeId} {e : GE P}, findGT l T = some e → e.id = T ∧ e.ag = true
 | [], _, _, h => by cases h
 | q :: r, T, e, h => by
  unfold findGT at h
  split at h
  ·rename_i hb; cases h
   simp only [Bool.and_eq_true] at hb
   exact ⟨Nat.eq_of_beq_eq_true hb.1, hb.2⟩
  ·exact findGT_id h
def garrOf : SV → Option ((t : PT) × List (den t))
 | .garr t xs => some ⟨t, xs⟩
 | _ => none
theorem garrOf_eq {sv : SV} {t : PT} {xs : List (den t)} (h : garrOf sv = some ⟨t, xs⟩) : sv = .garr t xs := by
 cases sv <;> first | (cases h; rfl) | cases h
def opIndexA {P : Program} (ge : GE P) (a b : RA) : OpRes := match garrOf a.1, asI b with
 | some ⟨t, xs⟩, some ⟨k, i⟩ => match Nat.beq (List.length (α := den t) xs) (List.length (α := den ge.pt) ge.xs) && !aggT t with
  | true => .bnd (den t) (idx (α := den t) xs (toI k i)) fun X => .ret (o1 (.dat t X))
  | false => .stuck
 | _, _ => .stuck
theorem loc_indexA {ge : GE P} {out : Out} {a b : RA} (hag : ge.ag = true) (hx : ev F x = some v) (hy : ev F y = some u) (hv : AOK e lab w a v) (hu : AOK e lab w b u) (hr : Res (opIndexA ge a b) out) (tp : Top lab w) (hw : Wn ops F g) (hd : Nat.blt d N = true) :
  LW P N ops [⟨some d, .index ge.id x y, ty, pos, af, g⟩] F w (Fin N F e nid lab w (some d) out) := by
 unfold opIndexA at hr
 split at hr
 ·rename_i t xs k i hs hi
  obtain rfl := asI_ok hu hi
  split at hr
  ·rename_i hb
   simp only [Bool.and_eq_true, Bool.not_eq_true'] at hb
   have hlen := Nat.eq_of_beq_eq_true hb.1
   have hsv := garrOf_eq hs
   have hv1 : ∃ us : List Value, v = .agg us.toArray ∧ All2 (fun x u => Dat t x lab w u) xs us := by
    have := hv.1
    rw [hsv] at this
    exact this
   obtain ⟨us, rfl, hus⟩ := hv1
   cases hr with
   | bnd hX hr =>
    rename_i X
    obtain rfl := hr.ret_eq
    unfold idx at hX
    split at hX
    ·rename_i h0
     have hlt : (toI k i).toNat < xs.length := (List.getElem?_eq_some_iff.1 hX).1
     have hlt' : toI k i < (ge.xs.length : Int) := by omega
     obtain ⟨_, _, _, k4⟩ := ge.agk hag
     obtain ⟨z, hz, hzd⟩ := hus.get hX
     refine LW.val (v := z) rfl hw rfl hd (fun q hq => ?_) (fin_val tp hzd)
     have hz' : us.toArray[(toI k i).toNat]? = some z := by simpa using hz
     simp [execOp, hq.eval hx, hq.eval hy, Instr.index, asIntOf, run_underlying ge.und, h0, hlt', part, k4.agg, k4.size, GE1 ge hag, hz]
    ·cases hX
  ·cases hr
 ·cases hr
end
end Go.Gk
