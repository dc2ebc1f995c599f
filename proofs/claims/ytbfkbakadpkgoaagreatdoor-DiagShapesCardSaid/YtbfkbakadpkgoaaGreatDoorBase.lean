/-
  A base library of rules for walking a function's code with an explicit environment of live slots, and for telling what values in memory stand for. No condition; nothing here speaks of a program.
-/
import Derived.WalkKit
import Derived.Below
import Derived.Laws.OwnMore
import Derived.Laws.Rows
import Derived.RegionTactic
namespace Go.Gk
open Go.RowKit
def look : List (Nat × Value) → Nat → Option Value
 | [], _ => none
 | (k, v) :: r, t => match Nat.beq k t with
  | true => some v
  | false => look r t
structure Sat (F : List (Nat × Value)) (N : Nat) (a : Act) : Prop where
 size : a.tmps.size = N
 defers : a.defers = []
 get : ∀ t v, look F t = some v → a.tmps[t]? = some v
def ev (F : List (Nat × Value)) : Operand → Option Value
 | .tmp t => look F t
 | .const v => some v
 | .global g => some (.pointer (some ⟨g, 0, none⟩))
 | .func f => some (.func (.func f) #[] #[])
theorem Sat.eval {F : List (Nat × Value)} {N : Nat} {a : Act} (h : Sat F N a) {x : Operand} {v : Value} (hx : ev F x = some v) : a.eval x = v := by
 cases x with
 | tmp t =>
  have := h.get t v hx
  simp [Act.eval, Array.getD_eq_getD_getElem?, this]
 | const u => simpa [ev, Act.eval] using hx
 | global g => simpa [ev, Act.eval] using hx
 | func f => simpa [ev, Act.eval] using hx
theorem Sat.put {F : List (Nat × Value)} {N : Nat} {a : Act} (h : Sat F N a) {d : Nat} (hd : Nat.blt d N = true) (v : Value) : Sat ((d, v) :: F) N (a.put (some d) v) := by
 have hd' : d < N := by simpa using hd
 refine ⟨by simp [Act.put, h.size], by simpa [Act.put] using h.defers, fun t u hu => ?_⟩
 unfold look at hu
 split at hu
 ·rename_i hb
  have : d = t := Nat.eq_of_beq_eq_true hb
  subst this
  simp at hu
  subst hu
  simp [Act.put, Array.getElem?_setIfInBounds, h.size, hd']
 ·rename_i hb
  have hne : d ≠ t := fun e => by subst e; simp at hb
  simp only [Act.put, Array.getElem?_setIfInBounds, hne, if_false]
  exact h.get t u hu
theorem Sat.none_ {F : List (Nat × Value)} {N : Nat} {a : Act} (h : Sat F N a) (v : Value) : Sat F N (a.put none v) := by simpa [Act.put] using h
def sub : List (Nat × Value) → List (Nat × Value) → Prop
 | [], _ => True
 | p :: r, F => look F p.1 = some p.2 ∧ sub r F
theorem look_of_sub {F : List (Nat × Value)} : ∀ {G : List (Nat × Value)}, sub G F → ∀ t v, look G t = some v → look F t = some v
 | [], _, _, _, h => by simp [look] at h
 | p :: r, hs, t, v, h => by
  unfold look at h
  split at h
  ·rename_i hb
   have : p.1 = t := Nat.eq_of_beq_eq_true hb
   subst this
   simp at h
   subst h
   exact hs.1
  ·exact look_of_sub hs.2 t v h
theorem Sat.sub {F G : List (Nat × Value)} {N : Nat} {a : Act} (h : Sat F N a) (hs : sub G F) : Sat G N a :=
 ⟨h.size, h.defers, fun t v hv => h.get t v (look_of_sub hs t v hv)⟩
abbrev Kont := Exit → Act → World → Prop
def CW (P : Program) (N : Nat) (c : Code) (F : List (Nat × Value)) (w : World) (K : Kont) : Prop := ∀ a, Sat F N a → c.wp P K a w
def LW (P : Program) (N : Nat) (ops : Array Oper) (l : List Oper) (F : List (Nat × Value)) (w : World) (K : Kont) : Prop := ∀ a, Sat F N a → wpList P ops K l a w
def EW (N : Nat) (e : Exit) (F : List (Nat × Value)) (w : World) (K : Kont) : Prop := ∀ a, Sat F N a → K e a w
section control
variable {P : Program} {N : Nat} {F G : List (Nat × Value)} {w : World} {K : Kont} {c : Code}
def kseq (P : Program) (c : Code) (K : Kont) : Kont := Exit.then (c.wp P K) K
def kblock (id : Nat) (K : Kont) : Kont := Exit.inBlock id K
def kjoin (N : Nat) (J : List (Nat × Value) → World → Prop) (K : Kont) : Kont := Exit.then (fun a w => ∃ F, Sat F N a ∧ J F w) K
theorem CW.seq {x y : Code} (h : CW P N x F w (kseq P y K)) : CW P N (.seq x y) F w K := fun a ha => wp_seq (h a ha)
theorem CW.block {id : Nat} {c : Code} (h : CW P N c F w (kblock id K)) : CW P N (.block id c) F w K := fun a ha => wp_block (h a ha)
theorem CW.skip (h : EW N .normal F w K) : CW P N .skip F w K := fun a ha => wp_skip (h a ha)
theorem CW.exit {id : Nat} (h : EW N (.exit id) F w K) : CW P N (.exit id) F w K := fun a ha => wp_exit (h a ha)
theorem CW.ret (h : EW N .ret F w K) : CW P N .ret F w K := fun a ha => wp_ret (h a ha)
theorem CW.region {id : Nat} {l : List Oper} (h : LW P N l.toArray l F w K) : CW P N (.region id l.toArray false) F w K := fun a ha => wp_region_lit (h a ha)
theorem CW.sub (hs : sub G F) (h : CW P N c G w K) : CW P N c F w K := fun a ha => h a (ha.sub hs)
theorem LW.sub {ops : Array Oper} {l : List Oper} (hs : sub G F) (h : LW P N ops l G w K) : LW P N ops l F w K := fun a ha => h a (ha.sub hs)
theorem EW.sub {e : Exit} (hs : sub G F) (h : EW N e G w K) : EW N e F w K := fun a ha => h a (ha.sub hs)
theorem LW.nil {ops : Array Oper} (h : EW N .normal F w K) : LW P N ops [] F w K := fun a ha => wpList_nil (h a ha)
theorem EW.seq_n {c : Code} (h : CW P N c F w K) : EW N .normal F w (kseq P c K) := h
theorem EW.seq_x {c : Code} {id : Nat} (h : EW N (.exit id) F w K) : EW N (.exit id) F w (kseq P c K) := h
theorem EW.seq_r {c : Code} (h : EW N .ret F w K) : EW N .ret F w (kseq P c K) := h
theorem EW.block_n {id : Nat} (h : EW N .normal F w K) : EW N .normal F w (kblock id K) := h
theorem EW.block_r {id : Nat} (h : EW N .ret F w K) : EW N .ret F w (kblock id K) := h
theorem EW.block_x {id : Nat} (h : EW N .normal F w K) : EW N (.exit id) F w (kblock id K) := fun a ha => by
 simp only [kblock, Exit.inBlock, if_true]; exact h a ha
theorem EW.block_y {id id' : Nat} (hne : Nat.beq id' id = false) (h : EW N (.exit id') F w K) : EW N (.exit id') F w (kblock id K) := fun a ha => by
 have : id' ≠ id := fun e => by subst e; simp at hne
 simp only [kblock, Exit.inBlock, this, if_false]; exact h a ha
theorem EW.join_n {J : List (Nat × Value) → World → Prop} (h : J F w) : EW N .normal F w (kjoin N J K) := fun _ ha => ⟨F, ha, h⟩
theorem EW.join_x {J : List (Nat × Value) → World → Prop} {id : Nat} (h : EW N (.exit id) F w K) : EW N (.exit id) F w (kjoin N J K) := h
theorem EW.join_r {J : List (Nat × Value) → World → Prop} (h : EW N .ret F w K) : EW N .ret F w (kjoin N J K) := h
theorem Exit.then_mono {A B : Act → World → Prop} (h : ∀ a w, A a w → B a w) : ∀ e a w, Exit.then A K e a w → Exit.then B K e a w := fun e a w q => by
 cases e <;> first | exact h _ _ q | exact q
theorem CW.cond {c : Operand} {x y : Code} {b : Bool} (hx : ev F c = some (.bool b)) (ht : b = true → CW P N x F w K) (hf : b = false → CW P N y F w K) : CW P N (.cond c x y) F w K :=
 fun a ha => wp_cond_split (ha.eval hx) (fun e => ht e a ha) (fun e => hf e a ha)
theorem least {p : Nat → Prop} : ∀ n, p n → ∃ k, p k ∧ ∀ m, p m → k ≤ m := by
 intro n
 induction n using Nat.strongRecOn with
 | _ n ih =>
  intro hn
  by_cases hlt : ∃ k, k < n ∧ p k
  ·obtain ⟨k, hk, h2⟩ := hlt
   exact ih k hk h2
  ·exact ⟨n, hn, fun m hm => Nat.le_of_not_lt fun hmn => hlt ⟨m, hmn, hm⟩⟩
theorem CW.loop (J : Nat → List (Nat × Value) → World → Prop) (n : Nat) (h0 : J n F w)
  (h : ∀ n F' w', J n F' w' → CW P N c F' w' (kjoin N (fun F'' w'' => ∃ m, m < n ∧ J m F'' w'') K)) : CW P N (.loop c) F w K := fun a ha => by
 classical
 let q : Act → World → Nat → Prop := fun a w m => ∃ F', Sat F' N a ∧ J m F' w
 let I : Act → World → Prop := fun a w => ∃ m, q a w m
 let μ : Act → World → Nat := fun a w => if h : I a w then Classical.choose (least h.choose h.choose_spec) else 0
 have hμ : ∀ a w, I a w → q a w (μ a w) ∧ ∀ m, q a w m → μ a w ≤ m := fun a w hI => by
  have e : μ a w = Classical.choose (least hI.choose hI.choose_spec) := dif_pos hI
  rw [e]
  exact Classical.choose_spec (least hI.choose hI.choose_spec)
 refine wp_loop I μ ⟨n, F, ha, h0⟩ fun a w hI => ?_
 obtain ⟨⟨F', hs, hJ⟩, _⟩ := hμ a w hI
 refine wp_mono (h _ _ _ hJ a hs) (Exit.then_mono fun a' w' ⟨F'', hs', m, hm, hJ'⟩ => ?_)
 have hI' : I a' w' := ⟨m, F'', hs', hJ'⟩
 exact ⟨hI', Nat.lt_of_le_of_lt ((hμ a' w' hI').2 m ⟨F'', hs', hJ'⟩) hm⟩
end control
end Go.Gk
