/-
  The evaluator of one operation. Over whatever program; no condition.
-/
import Derived.Test.YtbfkbakadpkgoaaGreatDoorYCon
namespace Go.Gk
open Go.RowKit
def constI : (k : IntKind) → Int → Option (kden k)
 | .i64, n => some n | .i32, n => some n | .i16, n => some n | .i8, n => some n | .u16, n => some n
 | .u8, n => match decide (toI .u8 (toU8 n) = n) with | true => some (toU8 n) | false => none
 | .u64, n => match decide (toI .u64 (toU64 n) = n) with | true => some (toU64 n) | false => none
 | .u32, n => match decide (toI .u32 (toU32 n) = n) with | true => some (toU32 n) | false => none
theorem constI_ok {k : IntKind} {n : Int} {x : kden k} (h : constI k n = some x) : toI k x = n := by
 cases k <;> first | (cases h; rfl) | (unfold constI at h; simp only at h; split at h; (rename_i hd; cases h; exact of_decide_eq_true hd); cases h)
def constS : Value → Option SV
 | .int k n => match constI k n with | some x => some (.dat (.int k) x) | none => none
 | .bool b => some (.dat .bool b)
 | .string s => some (.dat .str s.data.toList)
 | .slice none 0 0 => some .nil
 | .pointer none => some .pnil
 | .nilFunc => some (.dat (.clo 0 .un) none)
 | .nilIface => some (.dat .err false)
 | _ => none
def refOf : SV → Option Nat
 | .agh _ _ _ id => some id | .clb _ id => some id | .mp id => some id | .ptr id _ => some id | .own id => some id | .eptr id _ _ => some id | .rix id => some id | .rlen id => some id | .rsl id => some id | .rnx id => some id | .rcn id => some id | _ => none
def entOf (ps : PS) (sv : SV) : Option MEnt :=
 match refOf sv with
 | none => none
 | some id => match findK ps.mem id with
  | some (_, m) => some m
  | none => none
def resO (ps : PS) : Operand → Option RA
 | .tmp t => match findK ps.sl t with
  | some (_, sv) => some (sv, entOf ps sv)
  | none => none
 | .const v => match constS v with
  | some sv => some (sv, none)
  | none => none
 | _ => none
section
variable {P : Program} {N : Nat} {ops : Array Oper} {F : List (Nat × Value)} {w w' : World} {e : Env} {lab lab' : Lab} {ps : PS} {v : Value} {a : RA}
theorem constS_ok {sv : SV} (h : constS v = some sv) : RV e sv lab w v := by
 unfold constS at h
 split at h
 ·split at h
  ·rename_i x hx
   cases h
   rw [← constI_ok hx]; exact Dat.ofInt x
  ·cases h
 ·cases h; exact Dat.ofBool _
 ·rename_i s
  cases h
  have : (Value.string s) = strV s.data.toList := by simp [strV]
  rw [this]; exact Dat.ofStr _
 ·cases h; rfl
 ·cases h; rfl
 ·cases h; exact ⟨[.nilFunc], rfl, rfl⟩
 ·cases h; exact ⟨[.nilIface], rfl, rfl⟩
 ·cases h
theorem refOf_id {sv : SV} {id : Nat} (h : refOf sv = some id) : idOf sv = id := by cases sv <;> first | (cases h; rfl) | cases h
theorem entOf_ok (h : Sim e ps F lab w) {sv : SV} {m : MEnt} (hm : entOf ps sv = some m) : MemOK e lab w (idOf sv) m := by
 unfold entOf at hm
 split at hm
 ·cases hm
 ·rename_i id hid
  split at hm
  ·rename_i st m' hf
   cases hm
   rw [refOf_id hid]
   exact h.mem _ _ _ (findK_mem hf)
  ·cases hm
theorem resO_ok (h : Sim e ps F lab w) {x : Operand} (hx : resO ps x = some a) : ∃ v, ev F x = some v ∧ AOK e lab w a v := by
 unfold resO at hx
 split at hx
 ·rename_i t
  split at hx
  ·rename_i st sv hf
   cases hx
   obtain ⟨v, hv, hr⟩ := h.sl _ _ _ (findK_mem hf)
   exact ⟨v, hv, hr, fun m hm => entOf_ok h hm⟩
  ·cases hx
 ·rename_i v
  split at hx
  ·rename_i sv hs
   cases hx
   exact ⟨v, rfl, constS_ok hs, fun m hm => by cases hm⟩
  ·cases hx
 ·cases hx
theorem resO_lt (wf : WF ps) {x : Operand} (hx : resO ps x = some a) : ∀ i ∈ refs a.1, i < ps.nxt := by
 unfold resO at hx
 split at hx
 ·split at hx
  ·rename_i st sv hf
   cases hx
   exact (wf.sl _ _ _ (findK_mem hf)).2
  ·cases hx
 ·split at hx
  ·rename_i v sv hs
   cases hx
   intro i hi
   unfold constS at hs
   split at hs
   ·split at hs
    ·cases hs; simp [refs, refs0] at hi
    ·cases hs
   all_goals first | (cases hs; done) | (cases hs; simp [refs, refs0] at hi)
  ·cases hx
 ·cases hx
def resL (ps : PS) : List Operand → Option (List RA)
 | [] => some []
 | x :: xs => match resO ps x, resL ps xs with
  | some a, some as => some (a :: as)
  | _, _ => none
theorem resL_ok (h : Sim e ps F lab w) : ∀ {xs : List Operand} {as : List RA}, resL ps xs = some as → ∃ vs, ArgsA F e lab w xs as vs
 | [], as, hx => by cases hx; exact ⟨[], .nil⟩
 | x :: xs, as, hx => by
  unfold resL at hx
  split at hx
  ·rename_i a as' ha has
   cases hx
   obtain ⟨v, h1, h2⟩ := resO_ok h ha
   obtain ⟨vs, h3⟩ := resL_ok h has
   exact ⟨v :: vs, .cons h1 h2 h3⟩
  ·cases hx
def resP (ps : PS) : List (Nat × Operand) → Option (List (Nat × RA))
 | [] => some []
 | (i, x) :: xs => match resO ps x, resP ps xs with
  | some a, some as => some ((i, a) :: as)
  | _, _ => none
theorem resP_ok (h : Sim e ps F lab w) : ∀ {xs : List (Nat × Operand)} {as : List (Nat × RA)}, resP ps xs = some as → ∃ vs, PartsOK F e lab w xs as vs
 | [], as, hx => by cases hx; exact ⟨[], .nil⟩
 | (i, x) :: xs, as, hx => by
  unfold resP at hx
  split at hx
  ·rename_i a as' ha has
   cases hx
   obtain ⟨v, h1, h2⟩ := resO_ok h ha
   obtain ⟨vs, h3⟩ := resP_ok h has
   exact ⟨(i, v) :: vs, .cons h1 h2 h3⟩
  ·cases hx
theorem callArgs_lt (wf : WF ps) {xs : List Operand} : ∀ {qs : List PK} {as : List RA} {c : CA qs}, resL ps xs = some as → callArgs qs as = some c → ∀ p, c.po = some p → p.1 < ps.nxt := by
 induction xs with
 | nil =>
  intro qs as c h hc p hp
  cases h
  cases qs with
  | nil => cases hc; cases hp
  | cons q qs => cases q <;> cases hc
 | cons x xs ih =>
  intro qs as c h hc p hp
  unfold resL at h
  split at h
  ·rename_i a as' ha has
   cases h
   cases qs with
   | nil => cases hc
   | cons q qs =>
   cases q with
   | d t =>
    unfold callArgs at hc
    split at hc
    ·cases hc
    ·rename_i c' hc'
     split at hc
     ·cases hc; exact ih has hc' p hp
     ·split at hc
      ·cases hc; exact ih has hc' p hp
      ·cases hc
   | p T t =>
    unfold callArgs at hc
    split at hc
    ·cases hc
    ·split at hc
     ·split at hc
      ·cases hc
       cases hp
       exact resO_lt wf ha _ (by simp [refs, refs0])
      ·cases hc
     ·cases hc
   | r E t =>
    unfold callArgs at hc
    split at hc
    ·cases hc
    ·split at hc
     ·split at hc
      ·cases hc; cases hp
      ·cases hc
     ·cases hc; cases hp
     ·cases hc
  ·cases h
end
section
variable {ps : PS}
theorem callArgs_cap : ∀ {t : PT} {x : den t} {cs : List RA} {qs : List PK} {c : CA qs}, capRA t x = some cs → callArgs qs cs = some c → c.po = none
 | .un, x, cs, qs, c, h, hc => by
  cases h
  cases qs with
  | nil => cases hc; rfl
  | cons q qs => cases q <;> cases hc
 | .pr (.cp a) b, x, cs, qs, c, h, hc => by
  unfold capRA at h
  split at h
  ·rename_i r hb
   cases h
   cases qs with
   | nil => cases hc
   | cons q qs =>
    cases q with
    | d t =>
     unfold callArgs at hc
     split at hc
     ·cases hc
     ·rename_i c' hc'
      have ih := callArgs_cap hb hc'
      split at hc
      ·cases hc; exact ih
      ·split at hc
       ·cases hc; exact ih
       ·cases hc
    | p T t =>
     unfold callArgs at hc
     split at hc
     ·cases hc
     ·cases hc
    | r E t =>
     unfold callArgs at hc
     split at hc
     ·cases hc
     ·split at hc <;> first | (cases hc; done) | contradiction | skip
      all_goals (rename_i h2; cases h2)
  ·cases h
 | .int _, _, _, _, _, h, _ => by cases h
 | .bool, _, _, _, _, h, _ => by cases h
 | .str, _, _, _, _, h, _ => by cases h
 | .sl _, _, _, _, _, h, _ => by cases h
 | .st _, _, _, _, _, h, _ => by cases h
 | .cp _, _, _, _, _, h, _ => by cases h
 | .clo _ _, _, _, _, _, h, _ => by cases h
 | .tree, _, _, _, _, h, _ => by cases h
 | .err, _, _, _, _, h, _ => by cases h
 | .fl, _, _, _, _, h, _ => by cases h
 | .pr (.int _) _, _, _, _, _, h, _ => by cases h
 | .pr .bool _, _, _, _, _, h, _ => by cases h
 | .pr .str _, _, _, _, _, h, _ => by cases h
 | .pr (.sl _) _, _, _, _, _, h, _ => by cases h
 | .pr (.pr _ _) _, _, _, _, _, h, _ => by cases h
 | .pr (.st _) _, _, _, _, _, h, _ => by cases h
 | .pr .un _, _, _, _, _, h, _ => by cases h
 | .pr (.clo _ _) _, _, _, _, _, h, _ => by cases h
 | .pr .tree _, _, _, _, _, h, _ => by cases h
 | .pr .err _, _, _, _, _, h, _ => by cases h
 | .pr .fl _, _, _, _, _, h, _ => by cases h
theorem callArgs_ltg {n : Nat} : ∀ {qs : List PK} {as : List RA} {c : CA qs}, callArgs qs as = some c → (∀ a ∈ as, ∀ i ∈ refs a.1, i < n) → ∀ p, c.po = some p → p.1 < n
 | [], [], c, h, _, p, hp => by cases h; cases hp
 | [], _ :: _, c, h, _, _, _ => by cases h
 | .d t :: ps, [], c, h, _, _, _ => by cases h
 | .p T t :: ps, [], c, h, _, _, _ => by cases h
 | .r T t :: ps, [], c, h, _, _, _ => by cases h
 | .d t :: ps, a :: as, c, h, hi, p, hp => by
  unfold callArgs at h
  split at h
  ·cases h
  ·rename_i c' hc
   have ih := callArgs_ltg hc fun a ha => hi a (by simp [ha])
   split at h
   ·cases h; exact ih p hp
   ·split at h
    ·cases h; exact ih p hp
    ·cases h
 | .p T t :: ps, a :: as, c, h, hi, p, hp => by
  unfold callArgs at h
  split at h
  ·cases h
  ·split at h
   ·split at h
    ·cases h; cases hp
     exact hi _ List.mem_cons_self _ (List.mem_singleton.2 rfl)
    ·cases h
   ·cases h
 | .r E t :: ps, a :: as, c, h, hi, p, hp => by
  unfold callArgs at h
  split at h
  ·cases h
  ·split at h
   ·split at h
    ·cases h; cases hp
    ·cases h
   ·cases h; cases hp
   ·cases h
theorem resL_lt (wf : WF ps) : ∀ {xs : List Operand} {as : List RA}, resL ps xs = some as → ∀ a ∈ as, ∀ i ∈ refs a.1, i < ps.nxt
 | [], as, h, a, ha => by cases h; cases ha
 | x :: xs, as, h, a, ha => by
  unfold resL at h
  split at h
  ·rename_i b bs hb hbs
   cases h
   rcases List.mem_cons.1 ha with rfl | ha
   ·exact fun i hi => resO_lt wf hb i hi
   ·exact resL_lt wf hbs a ha
  ·cases h
theorem callArgs_lt2 (wf : WF ps) {t : PT} {x : den t} {cs : List RA} (hcs : capRA t x = some cs) {xs : List Operand} : ∀ {qs : List PK} {as : List RA} {c : CA qs}, resL ps xs = some as → callArgs qs (as ++ cs) = some c → ∀ p, c.po = some p → p.1 < ps.nxt := by
 induction xs with
 | nil =>
  intro qs as c h hc p hp
  cases h
  rw [List.nil_append] at hc
  rw [callArgs_cap hcs hc] at hp; cases hp
 | cons x xs ih =>
  intro qs as c h hc p hp
  unfold resL at h
  split at h
  ·rename_i a as' ha has
   cases h
   cases qs with
   | nil => cases hc
   | cons q qs =>
   cases q with
   | d t =>
    rw [List.cons_append] at hc
    unfold callArgs at hc
    split at hc
    ·cases hc
    ·rename_i c' hc'
     split at hc
     ·cases hc; exact ih has hc' p hp
     ·split at hc
      ·cases hc; exact ih has hc' p hp
      ·cases hc
   | p T t =>
    rw [List.cons_append] at hc
    unfold callArgs at hc
    split at hc
    ·cases hc
    ·split at hc
     ·split at hc
      ·cases hc
       cases hp
       exact resO_lt wf ha _ (by simp [refs, refs0])
      ·cases hc
     ·cases hc
   | r E t =>
    rw [List.cons_append] at hc
    unfold callArgs at hc
    split at hc
    ·cases hc
    ·split at hc
     ·split at hc
      ·cases hc; cases hp
      ·cases hc
     ·cases hc; cases hp
     ·cases hc
  ·cases h
end
structure SoE (P : Program) where
 fid : FuncId
 clo : Nat
 ift : TypeId
 el : TypeId
 pt : PT
 rel : List (den pt) → List (den pt) → Prop
 und : P.underlying ift = some (.slice el)
 fn : Fn? P fid
 ok : ∀ {lab : Lab} {w : World} {k c G : Nat} {oa : Option Addr} {xs : List (den pt)}, xs.length ≤ LIM → Top lab w → GL lab w → k ≠ 0 → Own (rep pt) lab w k el oa c xs → w.cell? ⟨G, 0, none⟩ = some (.slice oa xs.length c) → lab G ≠ k → lab G ≠ 0 →
  Calls P fid #[.iface ift (.slice oa xs.length c), .func (.func clo) #[] #[.pointer (some ⟨G, 0, none⟩)]] w fun e' w' => e' = .returned (.tuple #[]) ∧ ∃ lab' ys, rel xs ys ∧ ys.length = xs.length ∧ Stp [k] lab w lab' w' ∧ Own (rep pt) lab' w' k el oa c ys
structure XE (P : Program) where
 id : FuncId
 src : PT
 dst : PT
 f : den src → den dst
 ok : ∀ (x : den src) (v : Value) (lab : Lab) (w : World), Dat src x lab w v → ∃ v', (callFunc id #[v]).run P w = .ok (.value v') w ∧ Dat dst (f x) lab w v'
def findXE {P : Program} : List (XE P) → FuncId → Option (XE P)
 | [], _ => none
 | c :: r, f => match Nat.beq c.id f with
  | true => some c
  | false => findXE r f
theorem findXE_id {P : Program} : ∀ {l : List (XE P)} {f : FuncId} {c : XE P}, findXE l f = some c → c.id = f
 | [], _, _, h => by cases h
 | q :: r, f, c, h => by
  unfold findXE at h
  split at h
  ·rename_i hb; cases h; exact Nat.eq_of_beq_eq_true hb
  ·exact findXE_id h
def opX1 {P : Program} (xe : XE P) (a : RA) : OpRes := match asT xe.src a with
 | some x => .letm (den xe.dst) (xe.f x) fun y => .ret (o1 (.dat xe.dst y))
 | none => .stuck
theorem loc_x1 {P : Program} {N : Nat} {ops : Array Oper} {F : List (Nat × Value)} {w : World} {lab : Lab} {e : Env} {nid d : Nat} {a : RA} {vs : List Value} {xs : List Operand} {ts : Array TypeId} {ty : TypeId} {pos : String} {af : Array Edge} {g : Option (Nat × Bool)} {xe : XE P} {out : Out} (ha : ArgsA F e lab w xs [a] vs) (hr : Res (opX1 xe a) out) (tp : Top lab w) (hw : Wn ops F g) (hd : Nat.blt d N = true) :
  LW P N ops [⟨some d, .call { callee := .value (.func xe.id), args := xs.toArray, argTypes := ts }, ty, pos, af, g⟩] F w (Fin N F e nid lab w (some d) out) := by
 cases ha with
 | cons hx hv h4 =>
 cases h4
 rename_i x v
 unfold opX1 at hr
 split at hr
 ·rename_i z hz
  obtain ⟨v', h1, h2⟩ := xe.ok z v lab w (asT_ok hv hz)
  cases hr with
  | letm hr =>
   obtain rfl := hr.ret_eq
   exact LW.val rfl hw rfl hd (fun q hq => by
    have e : ([x].toArray.map q.eval) = #[v] := by simp [hq.eval hx]
    simp only [execOp, resolve, e, Act.eval, Deferred.ofValue, invoke, Sem.run_bind, Sem.run_pure, Result.andThen_ok]
    have e2 : (#[] ++ #[v] ++ #[] : Array Value) = #[v] := by simp
    rw [e2, h1]) (fin_val (sv := .dat xe.dst (xe.f z)) tp h2)
 ·cases hr
structure Tab (P : Program) where
 te : List (TE P)
 se : List (SE P)
 fe : List (FE P)
 be : List (BE P)
 cs : List (Con P)
 hold : List Nat
 fd : List (FD P)
 nil : List (Nat × Nat × TypeId)
 qe : List (QE P)
 ge : List (GE P)
 me : List (ME P)
 so : List (SoE P)
 xe : List (XE P)
def hasN : List Nat → Nat → Bool
 | [], _ => false
 | x :: r, n => Nat.beq x n || hasN r n
def tmpOf : Operand → Option Nat
 | .tmp t => some t
 | _ => none
theorem tmpOf_eq {x : Operand} : ∀ i, tmpOf x = some i → x = .tmp i := fun i h => by cases x <;> cases h; rfl
def sameO : Operand → Operand → Bool
 | .tmp a, .tmp b => Nat.beq a b
 | .const (.int k n), .const (.int k' n') => IntKind.eqb k k' && decide (n = n')
 | _, _ => false
theorem sameO_eq {x y : Operand} (h : sameO x y = true) : x = y := by
 unfold sameO at h
 split at h
 ·rw [Nat.eq_of_beq_eq_true h]
 ·simp only [Bool.and_eq_true] at h
  rw [IntKind.eqb_eq h.1, of_decide_eq_true h.2]
 ·cases h
def noX {P : Program} (c : Con P) : Bool := c.rs.all fun r => match r with | .x _ _ => false | _ => true
def opI (ps : PS) : Option Operand → Option (Option ((k : IntKind) × kden k))
 | none => some none
 | some x => match resO ps x with
  | some a => match asI a with
   | some i => some (some i)
   | none => none
  | none => none
def holdOf (l : List Nat) (x : Operand) : Option Nat :=
 match tmpOf x with
 | some s => match hasN l s with | true => some s | false => none
 | none => none
def nilOf : List (Nat × Nat × TypeId) → Nat → List (Nat × TypeId)
 | [], _ => []
 | (d', off, t) :: r, d => match Nat.beq d' d with | true => (off, t) :: nilOf r d | false => nilOf r d
def nilL {P : Program} (ses : List (SE P)) : List (Nat × TypeId) → Option (List (Nat × TypeId × PT))
 | [] => some []
 | (off, st) :: r => match findSE ses st, nilL ses r with
  | some se, some l => some ((off, se.el, se.pt) :: l)
  | _, _ => none
def agnOf : SV → Option ((t : PT) × den t × List (Nat × TypeId × PT))
 | .agn t x l => some ⟨t, x, l⟩
 | _ => none
theorem agnOf_eq {sv : SV} {t : PT} {x : den t} {l : List (Nat × TypeId × PT)} (h : agnOf sv = some ⟨t, x, l⟩) : sv = .agn t x l := by
 unfold agnOf at h
 split at h
 ·cases h; rfl
 ·cases h
def aghOf : SV → Option ((t : PT) × den t × Nat × Nat)
 | .agh t x off id => some ⟨t, x, off, id⟩
 | _ => none
theorem aghOf_eq {sv : SV} {t : PT} {x : den t} {off id : Nat} (h : aghOf sv = some ⟨t, x, off, id⟩) : sv = .agh t x off id := by
 unfold aghOf at h
 split at h
 ·cases h; rfl
 ·cases h
def capMark (hold : List Nat) : List Operand → Bool
 | [x] => match tmpOf x with
  | some s => hasN hold (4000000 + s)
  | none => false
 | _ => false
def clbOf : RA → Option (Nat × RA)
 | (.clb f id, m) => some (f, (.ptr id 0, m))
 | _ => none
theorem clbOf_eq {a a2 : RA} {f : Nat} (h : clbOf a = some (f, a2)) : ∃ id, a.1 = .clb f id ∧ a2 = (.ptr id 0, a.2) := by
 unfold clbOf at h
 split at h
 ·cases h; exact ⟨_, rfl, rfl⟩
 ·cases h
def isStrT {P : Program} (tes : List (TE P)) (T : TypeId) : Bool :=
 match findTE tes T with
 | some ⟨_, .str, _⟩ => true
 | _ => false
theorem isStrT_ok {P : Program} {tes : List (TE P)} {T : TypeId} (h : isStrT tes T = true) : P.underlying T = some .string := by
 unfold isStrT at h
 split at h
 ·rename_i i ok hf
  have e1 : i = T := findTE_id hf
  subst e1
  exact ok.und
 ·cases h
def cloOf : SV → Option (Nat × ((t : PT) × Option (den t)))
 | .dat (.clo f t) y => some (f, ⟨t, y⟩)
 | _ => none
theorem cloOf_eq {sv : SV} {f : Nat} {t : PT} {y : Option (den t)} (h : cloOf sv = some (f, ⟨t, y⟩)) : sv = .dat (.clo f t) y := by
 unfold cloOf at h
 split at h
 ·cases h; rfl
 ·cases h
section
variable {P : Program}
def evOp (T : Tab P) (own rng : List Nat) (ps : PS) (dst : Option Nat) (op : Op) : OpRes :=
 match op, dst with
 | .move x, some _ => match resO ps x with | some a => .ret (o1 a.1) | none => .stuck
 | .assign x, some _ => match resO ps x with | some a => .ret (o1 a.1) | none => .stuck
 | .pick c x y, some _ => match resO ps c, resO ps x, resO ps y with | some c, some a, some b => opPick c a b | _, _, _ => .stuck
 | .alloc t, some d => match findTE T.te t with | some e => .ret (newBox (10 + d) ps.nxt t e.pt (zt e.pt)) | none => .stuck
 | .box t x, some d => match findTE T.te t, resO ps x with | some e, some a => (match asT e.pt a with | some u => .ret (newBox (10 + d) ps.nxt t e.pt u) | none => .stuck) | _, _ => .stuck
 | .fieldAddr t x f, some _ => match findFE T.fe t f, resO ps x with | some e, some a => (match fldS e.off a.1 with | some sv => .ret (o1 sv) | none => .stuck) | _, _ => .stuck
 | .nilCheck x, some _ => match resO ps x with | some a => (match fldS 0 a.1 with | some _ => .ret (o1 a.1) | none => .stuck) | none => .stuck
 | .load t x, some d => match glbOf x with
  | some g => (match findGE T.ge t g with | some ge => opLoadG ge | none => .stuck)
  | none => match findTE T.te t, resO ps x with
   | some e, some a => match qTake a with
    | some (id, i, k, E, E2, ⟨t', xs⟩) => opLoadQ e ps.nxt (10 + d) id i k E E2 t' xs
    | none => opLoad e a
   | _, _ => .stuck
 | .store t x y, none => match holdOf T.hold x with
  | some s => match findTE T.te t, resO ps x, resO ps y with
   | some e, some a, some b => match agnOf b.1 with
    | some ⟨t2, X2, l⟩ => match PT.eqb e.pt t2 with
     | true => opStoreA ps.nxt (1000010 + s) a t2 X2 l
     | false => .stuck
    | none => match aghOf b.1 with
     | some ⟨t2, X2, off, id⟩ => match PT.eqb e.pt t2 with
      | true => opStoreG a t2 X2 off id
      | false => .stuck
     | none => match findSE T.se t with
      | some se => opStoreH e se.el ps.nxt (1000010 + s) a b
      | none => .stuck
   | _, _, _ => .stuck
  | none => match findTE T.te t, resO ps x, resO ps y with
   | some e, some a, some b => match qPut a b with
    | some (id, i, k, E, E2, ⟨t', xs⟩, q, E2', ⟨u, z⟩) => opStoreQ e id i k E E2 t' xs q E2' u z
    | none => match isBoxh a.2 with
     | true => opStoreHD e a b
     | false => opStore e a b
   | _, _, _ => .stuck
 | .binOp o t x y _, some _ => match resO ps x, resO ps y with | some a, some b => (match isNilC y with | true => opNil T.te o t a | false => match findQE T.qe t with | some qe => opEqS qe o a b | none => opBin T.te o t a b) | _, _ => .stuck
 | .index t x y, some _ => match isStrT T.te t, resO ps x, resO ps y with | true, some a, some b => opIndexS a b | false, some a, some b => (match findGT T.ge t with | some ge => opIndexA ge a b | none => .stuck) | _, _, _ => .stuck
 | .unOp .not _ x, some _ => match resO ps x with | some a => opNot a | none => .stuck
 | .convert s t x, some _ => match resO ps x with | some a => opConv T.te T.se s t a | none => .stuck
 | .build t parts, some d => match nilOf T.nil d with
  | [] => match findBE T.be t, resP ps parts.toList with
   | some e, some as => match nilOf T.nil (3000000 + d) with
    | [(off, _)] => match ownIn as e.fs off with
     | some rid => opBuildG e as off rid
     | none => .stuck
    | _ => opBuild e as
   | _, _ => .stuck
  | q => match findBE T.be t, nilL T.se q, resP ps parts.toList with | some e, some l, some as => opBuildN e as l | _, _, _ => .stuck
 | .field t x f, some _ => match findFD T.fd t f, resO ps x with
  | some fd, some a => match findTE T.te fd.ft with | some te => opField fd te a | none => .stuck
  | _, _ => .stuck
 | .makeFunc (.func f) first caps, some _ => match capMark T.hold caps.toList with
  | false => match first.toList, resL ps caps.toList with
   | [], some as => opMakeF f as
   | _, _ => .stuck
  | true => match first.toList, resL ps caps.toList with
   | [], some as => opMakeB f as
   | _, _ => .stuck
 | .buildSlice t n parts, some d => match findSE T.se t, resP ps parts.toList with | some e, some as => (match qOne n as with | some (q, E2, ⟨t', z⟩) => opBuildQ e ps.nxt (10 + d) q E2 t' z | none => opBuildS e ps.nxt (10 + d) (hasN own d) n as) | _, _ => .stuck
 | .makeSlice t x y, some d => match findSE T.se t, resO ps x, sameO y x with | some e, some a, true => opMake e ps.nxt (10 + d) (hasN own d) a | _, _, _ => .stuck
 | .slice t x lo hi none, some _ => match isStrT T.te t, resO ps x, opI ps lo, opI ps hi with
  | true, some a, some i, some j => opSliceS a i j
  | false, some a, some i, some j => (match findSE T.se t with | some e => opSlice e ps.nxt a i j | none => .stuck)
  | _, _, _, _ => .stuck
 | .slice t x none (some hi) (some mx), some _ => match findSE T.se t, resO ps x, resO ps hi, resO ps mx with
  | some e, some a, some b, some c => opSlice3 e a b c
  | _, _, _, _ => .stuck
 | .indexAddr t x y, some _ => match glbOf x with
  | none => (match findSE T.se t, resO ps x, resO ps y with | some e, some a, some b => (match qLen a with | some (n, E) => (match Nat.beq E e.el && Nat.beq (csz e.pt) 1 with | true => opIndexQ (ownId a) n b | false => .stuck) | none => opIndex e a b) | _, _, _ => .stuck)
  | some g => (match findGE T.ge t g, resO ps y with | some e, some b => opIndexG e b | _, _ => .stuck)
 | .makeMap t none, some d => match findME T.me t with | some me => opMakeMap me ps.nxt (10 + d) | none => .stuck
 | .lookup t x y ok, some _ => match findME T.me t, resO ps x, resO ps y with | some me, some a, some b => opLookup me a b ok | _, _, _ => .stuck
 | .mapUpdate t x y z, none => match findME T.me t, resO ps x, resO ps y, resO ps z with | some me, some a, some b, some c => opMapUpd me a b c | _, _, _, _ => .stuck
 | .extract x i, some _ => match resO ps x with | some a => opExtract a i | none => .stuck
 | .call c, some d => match c.callee, c.args.toList, c.argTypes.toList with
  | .builtin .len, [x], [t] => match resO ps x with
   | none => .stuck
   | some a => match findSE T.se t with
    | some e => match qLen a with
     | some (n, _) => .ret (o1 (.dat (.int .i64) (n : Int)))
     | none => opLen e ps.nxt (hasN rng d) (tmpOf x) a
    | none => match findTE T.te t, asDat a with
     | some ⟨_, .str, _⟩, some ⟨.str, l⟩ => .ret (o1 (.dat (.int .i64) (List.length (α := UInt8) l : Int)))
     | _, _ => .stuck
  | .builtin .append, [x, y], [t, t'] => match Nat.beq t' t, findSE T.se t, resO ps x, resO ps y with
   | true, some e, some a, some b => match isQ b with
    | true => opAppendQ e ps.nxt (10 + d) a b
    | false => opAppend e ps.nxt (10 + d) (hasN own d) a b
   | false, some e, some a, some b => match isStrT T.te t' with
    | true => opAppendS e ps.nxt (10 + d) (hasN own d) a b
    | false => .stuck
   | _, _, _, _ => .stuck
  | .builtin .max, [x, y], _ => match resO ps x, resO ps y with | some a, some b => opMM true a b | _, _ => .stuck
  | .builtin .min, [x, y], _ => match resO ps x, resO ps y with | some a, some b => opMM false a b | _, _ => .stuck
  | .value (.func f), xs, _ => match findCon T.cs f, resL ps xs with
   | some c, some as => match noX c with
    | true => match hasN T.hold (7000000 + d) with
     | false => opCall c ps.nxt (10 + d) as
     | true => opCallB c ps.nxt (10 + d) as
    | false => .stuck
   | none, some [a] => match findXE T.xe f with
    | some xe => opX1 xe a
    | none => .stuck
   | _, _ => .stuck
  | .value (.tmp s), xs, _ => match resO ps (.tmp s), resL ps xs with
   | some b, some as => match cloOf b.1 with
    | some (f, ⟨t, y⟩) => .bnd (den t) y fun z => match findCon T.cs f, capRA t z with
     | some c, some cs => match noX c with
      | true => opCall c ps.nxt (10 + d) (as ++ cs)
      | false => .stuck
     | _, _ => .stuck
    | none => match clbOf b with
     | some (f, a2) => match findCon T.cs f with
      | some c => match noX c with
       | true => opCallB c ps.nxt (10 + d) (as ++ [a2])
       | false => .stuck
      | none => .stuck
     | none => .stuck
   | _, _ => .stuck
  | _, _, _ => .stuck
 | _, _ => .stuck
variable {N : Nat} {ops : Array Oper} {F : List (Nat × Value)} {w w' : World} {e : Env} {lab lab' : Lab} {ps : PS} {v : Value} {a : RA}
theorem toArray_of {α : Type} {xs : Array α} {l : List α} (h : xs.toList = l) : xs = l.toArray := by rw [← h]
theorem opI_ok (h : Sim e ps F lab w) {x : Option Operand} {i : Option ((k : IntKind) × kden k)} (hx : opI ps x = some i) : OpI F x i := by
 unfold opI at hx
 split at hx
 ·cases hx; trivial
 ·split at hx
  ·rename_i a ha
   split at hx
   ·rename_i i' hi
    cases hx
    obtain ⟨v, h1, h2⟩ := resO_ok h ha
    obtain ⟨k, j⟩ := i'
    show ev F _ = some (.int k (toI k j))
    rw [h1, asI_ok h2 hi]
   ·cases hx
  ·cases hx
theorem evOp_ok {T : Tab P} {own rng : List Nat} {dst : Option Nat} {op : Op} {ty : TypeId} {pos : String} {af : Array Edge} {g : Option (Nat × Bool)} {out : Out} (h : Sim e ps F lab w) (wf : WF ps) (tp : Top lab w) (hr : Res (evOp T own rng ps dst op) out) (hw : Wn ops F g)
  (hd : ∀ d, dst = some d → Nat.blt d N = true) : LW P N ops [⟨dst, op, ty, pos, af, g⟩] F w (Fin N F e ps.nxt lab w dst out) := by
 unfold evOp at hr
 split at hr
 · -- move
  split at hr
  ·rename_i a ha
   obtain rfl := hr.ret_eq
   obtain ⟨v, h1, h2⟩ := resO_ok h ha
   exact loc_move h1 h2.1 tp hw (hd _ rfl)
  ·cases hr
 ·split at hr
  ·rename_i a ha
   obtain rfl := hr.ret_eq
   obtain ⟨v, h1, h2⟩ := resO_ok h ha
   exact loc_assign h1 h2.1 tp hw (hd _ rfl)
  ·cases hr
 ·split at hr
  ·rename_i c a b hc ha hb
   obtain ⟨v1, h1, h2⟩ := resO_ok h hc
   obtain ⟨v2, h3, h4⟩ := resO_ok h ha
   obtain ⟨v3, h5, h6⟩ := resO_ok h hb
   exact loc_pick h1 h3 h5 h2 h4.1 h6.1 hr tp hw (hd _ rfl)
  ·cases hr
 ·split at hr
  ·rename_i te hte
   obtain rfl := hr.ret_eq
   obtain rfl := findTE_id hte
   exact loc_alloc te.ok _ tp hw (hd _ rfl)
  ·cases hr
 ·split at hr
  ·rename_i te a hte ha
   split at hr
   ·rename_i u hu
    obtain rfl := hr.ret_eq
    obtain ⟨v, h1, h2⟩ := resO_ok h ha
    exact loc_box h1 (asT_ok h2 hu) _ tp hw (hd _ rfl)
   ·cases hr
  ·cases hr
 ·split at hr
  ·rename_i fe a hfe ha
   split at hr
   ·rename_i sv hs
    obtain rfl := hr.ret_eq
    obtain ⟨rfl, rfl⟩ := findFE_id hfe
    obtain ⟨v, h1, h2⟩ := resO_ok h ha
    exact loc_fld fe.ok h1 h2.1 hs tp hw (hd _ rfl)
   ·cases hr
  ·cases hr
 ·split at hr
  ·rename_i a ha
   split at hr
   ·rename_i sv hs
    obtain rfl := hr.ret_eq
    obtain ⟨v, h1, h2⟩ := resO_ok h ha
    exact loc_nilCheck h1 h2.1 hs tp hw (hd _ rfl)
   ·cases hr
  ·cases hr
 ·split at hr
  ·rename_i gi hgi
   obtain rfl := glbOf_eq hgi
   split at hr
   ·rename_i ge hge
    obtain ⟨rfl, rfl⟩ := findGE_id hge
    exact loc_loadG h.gl hr tp hw (hd _ rfl)
   ·cases hr
  ·split at hr
   ·rename_i te a hte ha
    obtain ⟨v, h1, h2⟩ := resO_ok h ha
    split at hr
    ·rename_i hq
     exact loc_loadQ (findTE_id hte) h1 h2 hq hr (fun i hi => resO_lt wf ha i hi) tp hw (hd _ rfl)
    ·exact loc_load (findTE_id hte) h1 h2 hr tp hw (hd _ rfl)
   ·cases hr
 ·split at hr
  ·split at hr
   ·rename_i te a b hte ha hb
    obtain ⟨v, h1, h2⟩ := resO_ok h ha
    obtain ⟨u, h3, h4⟩ := resO_ok h hb
    split at hr
    ·rename_i t2 X2 l hag
     have hag := agnOf_eq hag
     split at hr
     ·rename_i hpt
      have h5 := h4.1
      rw [hag] at h5
      exact loc_storeA (findTE_id hte) hpt h1 h3 h2 h5 hr (fun i hi => resO_lt wf ha i hi) tp hw
     ·cases hr
    ·split at hr
     ·rename_i t2 X2 off id hag
      have hag := aghOf_eq hag
      split at hr
      ·rename_i hpt
       have h5 := h4.1
       rw [hag] at h5
       exact loc_storeG (findTE_id hte) hpt h1 h3 h2 h5 hr tp hw
      ·cases hr
     split at hr
     ·rename_i se hse
      refine loc_storeH (findTE_id hte) h1 h3 h2 h4 hr (fun i hi => ?_) tp hw
      rcases List.mem_append.1 hi with hi | hi
      ·exact resO_lt wf ha i hi
      ·exact resO_lt wf hb i hi
     ·cases hr
   ·cases hr
  ·split at hr
   ·rename_i te a b hte ha hb
    obtain ⟨v, h1, h2⟩ := resO_ok h ha
    obtain ⟨u, h3, h4⟩ := resO_ok h hb
    split at hr
    ·rename_i hq
     exact loc_storeQ (findTE_id hte) h1 h3 h2 h4 hq hr tp hw
    ·split at hr
     ·exact loc_storeHD (findTE_id hte) h1 h3 h2 h4 hr tp hw
     ·exact loc_store (findTE_id hte) h1 h3 h2 h4 hr tp hw
   ·cases hr
 ·split at hr
  ·rename_i a b ha hb
   obtain ⟨v, h1, h2⟩ := resO_ok h ha
   obtain ⟨u, h3, h4⟩ := resO_ok h hb
   split at hr
   ·rename_i hnc
    obtain rfl := isNilC_eq hnc
    exact loc_nil h1 h2 hr tp hw (hd _ rfl)
   ·split at hr
    ·rename_i qe hq
     exact loc_eqS (findQE_id hq) h1 h3 h2 h4 hr tp hw (hd _ rfl)
    ·exact loc_bin h1 h3 h2 h4 hr tp hw (hd _ rfl)
  ·cases hr
 ·split at hr
  ·rename_i a b hs ha hb
   obtain ⟨v, h1, h2⟩ := resO_ok h ha
   obtain ⟨u, h3, h4⟩ := resO_ok h hb
   exact loc_indexS (isStrT_ok hs) h1 h3 h2 h4 hr tp hw (hd _ rfl)
  ·rename_i a b hs ha hb
   obtain ⟨v, h1, h2⟩ := resO_ok h ha
   obtain ⟨u, h3, h4⟩ := resO_ok h hb
   split at hr
   ·rename_i ge hge
    obtain ⟨rfl, hag⟩ := findGT_id hge
    exact loc_indexA hag h1 h3 h2 h4 hr tp hw (hd _ rfl)
   ·cases hr
  ·cases hr
 ·split at hr
  ·rename_i a ha
   obtain ⟨v, h1, h2⟩ := resO_ok h ha
   exact loc_not h1 h2 hr tp hw (hd _ rfl)
  ·cases hr
 ·split at hr
  ·rename_i a ha
   obtain ⟨v, h1, h2⟩ := resO_ok h ha
   exact loc_conv h1 h2 hr tp hw (hd _ rfl)
  ·cases hr
 ·split at hr
  ·split at hr
   ·rename_i be as hbe ha
    obtain ⟨vs, h1⟩ := resP_ok h ha
    split at hr
    ·split at hr
     ·exact loc_buildG (findBE_id hbe) h1 hr tp hw (hd _ rfl)
     ·cases hr
    ·exact loc_build (findBE_id hbe) h1 hr tp hw (hd _ rfl)
   ·cases hr
  ·split at hr
   ·rename_i be se as hbe hse ha
    obtain ⟨vs, h1⟩ := resP_ok h ha
    exact loc_buildN (findBE_id hbe) h1 hr tp hw (hd _ rfl)
   ·cases hr
 ·split at hr
  ·rename_i fd a hfd ha
   split at hr
   ·rename_i te hte
    obtain ⟨v, h1, h2⟩ := resO_ok h ha
    obtain ⟨e1, e2⟩ := findFD_id hfd
    exact loc_field e1 e2 (findTE_id hte) h1 h2 hr tp hw (hd _ rfl)
   ·cases hr
  ·cases hr
 ·rename_i f first caps d
  split at hr
  ·split at hr
   ·rename_i as hfi has
    obtain ⟨first⟩ := first
    obtain ⟨caps⟩ := caps
    have hfi : first = [] := hfi
    subst hfi
    obtain ⟨vs, h1⟩ := resL_ok h has
    exact loc_makeF h1 hr tp hw (hd _ rfl)
   ·cases hr
  ·split at hr
   ·rename_i as hfi has
    obtain ⟨first⟩ := first
    obtain ⟨caps⟩ := caps
    have hfi : first = [] := hfi
    subst hfi
    obtain ⟨vs, h1⟩ := resL_ok h has
    exact loc_makeB h1 hr tp hw (hd _ rfl)
   ·cases hr
 ·split at hr
  ·rename_i se as hse ha
   obtain ⟨vs, h1⟩ := resP_ok h ha
   split at hr
   ·rename_i hq
    exact loc_buildQ (findSE_id hse) h1 hq hr tp hw (hd _ rfl)
   ·exact loc_buildS (findSE_id hse) h1 hr tp hw (hd _ rfl)
  ·cases hr
 ·split at hr
  ·rename_i se a hse ha hsm
   obtain rfl := sameO_eq hsm
   obtain ⟨v, h1, h2⟩ := resO_ok h ha
   exact loc_make (findSE_id hse) h1 h2 hr tp hw (hd _ rfl)
  ·cases hr
 ·split at hr
  ·rename_i a i j hs ha hi hj
   obtain ⟨v, h1, h2⟩ := resO_ok h ha
   exact loc_sliceS (isStrT_ok hs) h1 (opI_ok h hi) (opI_ok h hj) h2 hr tp hw (hd _ rfl)
  ·rename_i a i j hs ha hi hj
   obtain ⟨v, h1, h2⟩ := resO_ok h ha
   split at hr
   ·rename_i se hse
    exact loc_slice (findSE_id hse) h1 (opI_ok h hi) (opI_ok h hj) h2 hr tp hw (hd _ rfl)
   ·cases hr
  ·cases hr
 ·split at hr
  ·rename_i se a b c hse ha hb hc
   obtain ⟨v, h1, h2⟩ := resO_ok h ha
   obtain ⟨u1, h3, h4⟩ := resO_ok h hb
   obtain ⟨u2, h5, h6⟩ := resO_ok h hc
   exact loc_slice3 (findSE_id hse) h1 h3 h5 h2 h4 h6 hr tp hw (hd _ rfl)
  ·cases hr
 ·split at hr
  ·split at hr
   ·rename_i se a b hse ha hb
    obtain ⟨v, h1, h2⟩ := resO_ok h ha
    obtain ⟨u, h3, h4⟩ := resO_ok h hb
    split at hr
    ·rename_i hq
     split at hr
     ·rename_i hb
      simp only [Bool.and_eq_true] at hb
      exact loc_indexQ (findSE_id hse) (Nat.eq_of_beq_eq_true hb.1) h1 h3 h2 h4 hq hr tp hw (hd _ rfl) (Nat.eq_of_beq_eq_true hb.2)
     ·cases hr
    ·exact loc_index (findSE_id hse) h1 h3 h2 h4 hr tp hw (hd _ rfl)
   ·cases hr
  ·rename_i g hg
   split at hr
   ·rename_i ge b hge hb
    obtain ⟨u, h3, h4⟩ := resO_ok h hb
    obtain ⟨e1, e2⟩ := findGE_id hge
    obtain rfl := glbOf_eq hg
    subst e1 e2
    exact loc_indexG h.gl h3 h4 hr tp hw (hd _ rfl)
   ·cases hr
 ·split at hr
  ·rename_i me hme
   exact loc_makeMap hr tp hw (hd _ rfl)
  ·cases hr
 ·split at hr
  ·rename_i me a b hme ha hb
   obtain ⟨v, h1, h2⟩ := resO_ok h ha
   obtain ⟨u, h3, h4⟩ := resO_ok h hb
   exact loc_lookup (findME_id hme) h1 h3 h2 h4 hr tp hw (hd _ rfl)
  ·cases hr
 ·split at hr
  ·rename_i me a b c hme ha hb hc
   obtain ⟨v, h1, h2⟩ := resO_ok h ha
   obtain ⟨u, h3, h4⟩ := resO_ok h hb
   obtain ⟨u2, h5, h6⟩ := resO_ok h hc
   exact loc_mapUpd (findME_id hme) h1 h3 h5 h2 h4 h6 hr tp hw
  ·cases hr
 ·split at hr
  ·rename_i a ha
   obtain ⟨v, h1, h2⟩ := resO_ok h ha
   exact loc_extract h1 h2.1 hr tp hw (hd _ rfl)
  ·cases hr
 ·rename_i c d
  obtain ⟨callee, args, ats⟩ := c
  simp only at hr
  split at hr
  ·rename_i x t hx ht
   obtain rfl := toArray_of hx
   obtain rfl := toArray_of ht
   split at hr
   ·cases hr
   ·rename_i a ha
    obtain ⟨v, h1, h2⟩ := resO_ok h ha
    split at hr
    ·rename_i se hse
     split at hr
     ·rename_i hq
      exact loc_lenQ (findSE_id hse) h1 h2 hq hr tp hw (hd _ rfl)
     ·exact loc_len (findSE_id hse) tmpOf_eq h1 h2 hr tp hw (hd _ rfl)
    ·split at hr
     ·rename_i i ok l hte hl
      obtain rfl := hr.ret_eq
      have e2 : i = t := findTE_id hte
      subst e2
      obtain rfl := Dat.str (asDat_ok h2 hl)
      exact LW.lenS ok.und hw (hd _ rfl) h1 (fin_val tp (Dat.ofInt (k := .i64) _))
     ·cases hr
  ·rename_i x y t t' hx ht
   obtain rfl := toArray_of hx
   obtain rfl := toArray_of ht
   split at hr
   ·rename_i se a b hb hse ha hb'
    obtain rfl := Nat.eq_of_beq_eq_true hb
    obtain ⟨v, h1, h2⟩ := resO_ok h ha
    obtain ⟨u, h3, h4⟩ := resO_ok h hb'
    split at hr
    ·exact loc_appendQ (findSE_id hse) h1 h3 h2 h4 hr tp hw (hd _ rfl)
    ·exact loc_append (findSE_id hse) h1 h3 h2 h4 hr tp hw (hd _ rfl)
   ·rename_i se a b hb hse ha hb'
    obtain ⟨v, h1, h2⟩ := resO_ok h ha
    obtain ⟨u, h3, h4⟩ := resO_ok h hb'
    split at hr
    ·rename_i hst
     exact loc_appendS (findSE_id hse) (isStrT_ok hst) h1 h3 h2 h4 hr tp hw (hd _ rfl)
    ·cases hr
   ·cases hr
  ·rename_i x y l hx
   obtain rfl := toArray_of hx
   split at hr
   ·rename_i a b ha hb
    obtain ⟨v, h1, h2⟩ := resO_ok h ha
    obtain ⟨u, h3, h4⟩ := resO_ok h hb
    exact loc_mm (mx := true) h1 h3 h2 h4 hr tp hw (hd _ rfl)
   ·cases hr
  ·rename_i x y l hx
   obtain rfl := toArray_of hx
   split at hr
   ·rename_i a b ha hb
    obtain ⟨v, h1, h2⟩ := resO_ok h ha
    obtain ⟨u, h3, h4⟩ := resO_ok h hb
    exact loc_mm (mx := false) h1 h3 h2 h4 hr tp hw (hd _ rfl)
   ·cases hr
  ·rename_i f xs l
   split at hr
   ·rename_i c as hc has
    split at hr
    ·rename_i hx
     obtain ⟨vs, h1⟩ := resL_ok h has
     split at hr
     ·exact loc_call (findCon_id hc) hx h1 (fun ca hca p hp => callArgs_lt wf has hca p hp) hr tp h.gl hw (hd _ rfl)
     ·exact loc_callD (findCon_id hc) hx h1 (fun ca hca p hp => callArgs_lt wf has hca p hp) hr tp h.gl hw (hd _ rfl)
    ·cases hr
   ·rename_i a _ has
    split at hr
    ·rename_i xe hxe
     obtain rfl := findXE_id hxe
     obtain ⟨vs, h1⟩ := resL_ok h has
     exact loc_x1 h1 hr tp hw (hd _ rfl)
    ·cases hr
   ·cases hr
  ·rename_i s xs l
   split at hr
   ·rename_i b as hb has
    split at hr
    ·rename_i f t y hclo
     have hclo := cloOf_eq hclo
     cases hr with
     | bnd hy hr =>
      dsimp only at hr
      split at hr
      ·rename_i c cs hc hcs
       split at hr
       ·rename_i hx
        obtain ⟨vs, h1⟩ := resL_ok h has
        obtain ⟨v, h2, h3⟩ := resO_ok h hb
        have h3 := h3.1
        rw [hclo, hy] at h3
        refine loc_callC (c := c) ⟨v, h2, by rw [findCon_id hc]; exact h3⟩ hcs hx h1 (fun ca hca p hp => ?_) hr tp h.gl hw (hd _ rfl)
        exact callArgs_lt2 wf hcs has hca p hp
       ·cases hr
      ·cases hr
    split at hr
    ·rename_i f a2 hclb
     obtain ⟨id, hb1, rfl⟩ := clbOf_eq hclb
     split at hr
     ·rename_i c hc
      split at hr
      ·rename_i hx
       obtain ⟨vs, h1⟩ := resL_ok h has
       obtain ⟨v, h2, h3, h4⟩ := resO_ok h hb
       rw [hb1] at h3 h4
       obtain ⟨g, h5, rfl⟩ := h3
       refine loc_callB (c := c) (g0 := g) (by rw [findCon_id hc]; exact h2) h5 h4 hx h1 (fun ca hca p hp => ?_) hr tp h.gl hw (hd _ rfl)
       refine callArgs_ltg hca (fun a ha => ?_) p hp
       rcases List.mem_append.1 ha with ha | ha
       ·exact resL_lt wf has a ha
       ·obtain rfl := List.mem_singleton.1 ha
        intro i hi
        exact resO_lt wf hb i (by rw [hb1]; exact hi)
      ·cases hr
     ·cases hr
    ·cases hr
   ·cases hr
  ·cases hr
 ·cases hr
end
end Go.Gk
