/-
  Cache keys, plain facts: the key of a message by both texts (OptionKeys). Of the models alone; no program; no condition but the length told.
-/
import Derived.Test.YtllomdfckciedaaDoorQ58
namespace Go.Proofs.YtllomdfckciedaaDoor
open Go.Gk Go.RowKit
def nckB (n : Int) : Bool := bif decide (0 ≤ n) && decide (n ≤ 65535) then ibit .and n 30 == 28 else false
theorem nck_eq (n : Int) : m_option_NoCacheKey n = some (nckB n) := by
  unfold m_option_NoCacheKey m_option_in nckB
  simp only [letm_e, cd_and, bnd_s]
  cases decide (0 ≤ n) <;> cases decide (n ≤ 65535) <;> rfl
theorem nck_ref (n : Int) : m_coresecref16_NoCacheKey n = some (nckB n) := nck_eq n
/-- What counts for the key. -/
def keepN (o : S_api_Option) : Bool := !nckB o.1 && (o.1 != 4 && o.1 != 6)
def itU (n : Nat) : Tr := .mk 0 (UInt64.ofNat n) [] []
def itB (b : List UInt8) : Tr := .mk 2 0 b []
def itO (o : S_api_Option) : Tr := .mk 4 0 [] [itU o.1.toNat, itB o.2]
def encO (o : S_api_Option) : List UInt8 := headS 4 2 ++ (headS 0 o.1.toNat ++ ((headS 2 o.2.length ++ o.2) ++ []))
theorem int_eq {n : Int} (h0 : 0 ≤ n) : m_cbor_Int n = some (itU n.toNat) := by
  obtain ⟨k, rfl⟩ : ∃ k : Nat, n = (k : Int) := ⟨n.toNat, by omega⟩
  unfold m_cbor_Int m_cbor_Uint itU
  rw [letm_e, decide_eq_false (by omega), cd_f, letm_e, bnd_s, toU64_nat, Int.toNat_natCast]
theorem int_ref {n : Int} (h0 : 0 ≤ n) : m_coresecref01_Int n = some (itU n.toNat) := by
  obtain ⟨k, rfl⟩ : ∃ k : Nat, n = (k : Int) := ⟨n.toNat, by omega⟩
  unfold m_coresecref01_Int itU
  rw [letm_e, decide_eq_false (by omega), cd_f, letm_e, toU64_nat, Int.toNat_natCast]
theorem bytes_eq {b : List UInt8} (h : b.length ≤ 1000000) : m_cbor_Bytes b = some (itB b) := by
  unfold m_cbor_Bytes m_slices_Clone_byte_byte itB
  rw [app_nil_some h, bnd_s]
theorem bytes_ref {b : List UInt8} (h : b.length ≤ 1000000) : m_coresecref01_Bytes b = some (itB b) := by
  unfold m_coresecref01_Bytes itB
  rw [app_nil_some h, bnd_s]
theorem array_eq {l : List Tr} (h : ∀ y ∈ l, m_cbor_copied y = some y) (hl : l.length ≤ 1000000) : m_cbor_Array l = some (.mk 4 0 [] l) := by
  unfold m_cbor_Array
  have key : ∀ (r p : List Tr) (i : Nat), (∀ y ∈ r, m_cbor_copied y = some y) → p.length + r.length ≤ 1000000 →
      loopL (R := Tr) (S := (Tr × (List Tr))) (α := Tr) (fun _ s2 => some (Tr.mk s2.1.k s2.1.n s2.1.b s2.2)) (fun x3 _ s5 self6 => bnd (m_cbor_copied x3) fun x7 => bnd (app s5.2 [x7]) fun x8 => self6 (s5.1, x8)) r i ((Tr.mk 4 0 [] []), p) = some (.mk 4 0 [] (p ++ r)) := by
    intro r
    induction r with
    | nil => intro p i _ _; rw [loopL_nil, List.append_nil]; rfl
    | cons y r ih =>
      intro p i hy hp
      simp only [List.length_cons] at hp
      rw [loopL_cons, hy y (by simp), bnd_s, app_some' (by simp; omega), bnd_s, ih (p ++ [y]) (i + 1) (fun q hq => hy q (by simp [hq])) (by simp; omega)]
      simp
  exact key l [] 0 h (by simp; omega)
theorem encU {k n : Nat} (h : n < 65536) : Enc (k + 1) (itU n) 1 (headS 0 n) := .inl ⟨n, h, rfl, rfl, rfl⟩
theorem encB {k : Nat} {b : List UInt8} (h : b.length ≤ 4096) : Enc (k + 1) (itB b) 1 (headS 2 b.length ++ b) := .inr (.inl ⟨b, h, rfl, rfl, rfl⟩)
/-- Options that a key may be made of. -/
def OkO (l : List S_api_Option) : Prop := l.length ≤ 60 ∧ ∀ o ∈ l, 0 ≤ o.1 ∧ o.1 ≤ 65535 ∧ o.2.length ≤ 4096
theorem enc_itO {k : Nat} {o : S_api_Option} (h0 : 0 ≤ o.1) (h1 : o.1 ≤ 65535) (h2 : o.2.length ≤ 4096) : Enc (k + 2) (itO o) 3 (encO o) :=
  .inr (.inr ⟨[itU o.1.toNat, itB o.2], 2, _, rfl, by simp, .cons (encU (by omega)) (.cons (encB h2) .nil), rfl, rfl⟩)
theorem enc_opts : ∀ {l : List S_api_Option}, (∀ o ∈ l, 0 ≤ o.1 ∧ o.1 ≤ 65535 ∧ o.2.length ≤ 4096) → EncL (Enc 2) (l.map itO) (3 * l.length) (l.flatMap encO)
  | [], _ => .nil
  | o :: l, h => by
    obtain ⟨a, b, c⟩ := h o (by simp)
    have ih := enc_opts (l := l) fun q hq => h q (by simp [hq])
    rw [List.flatMap_cons, List.map_cons, List.length_cons, show 3 * (l.length + 1) = 3 + 3 * l.length by omega]
    exact .cons (enc_itO (k := 0) a b c) ih
def payL (m : S_api_Message) : List Tr := bif m.2.1 == 5 then [itB m.2.2.2.2.2] else []
def payE (m : S_api_Message) : List UInt8 := bif m.2.1 == 5 then (headS 2 m.2.2.2.2.2.length ++ m.2.2.2.2.2) ++ [] else []
def keyL (m : S_api_Message) : List Tr := itU m.2.1.toNat :: .mk 4 0 [] ((m.2.2.2.2.1.filter keepN).map itO) :: payL m
def keyE (m : S_api_Message) : List UInt8 := headS 4 (keyL m).length ++ (headS 0 m.2.1.toNat ++ ((headS 4 ((m.2.2.2.2.1.filter keepN).map itO).length ++ (m.2.2.2.2.1.filter keepN).flatMap encO) ++ payE m))
structure OkK (m : S_api_Message) : Prop where
  c0 : 0 ≤ m.2.1
  c1 : m.2.1 ≤ 255
  oo : OkO m.2.2.2.2.1
  pay : m.2.2.2.2.2.length ≤ 4096
theorem OkK.flt {m : S_api_Message} (h : OkK m) : (m.2.2.2.2.1.filter keepN).length ≤ 60 ∧ ∀ o ∈ m.2.2.2.2.1.filter keepN, 0 ≤ o.1 ∧ o.1 ≤ 65535 ∧ o.2.length ≤ 4096 :=
  ⟨Nat.le_trans (List.length_filter_le _ _) h.oo.1, fun o ho => h.oo.2 o (List.mem_filter.1 ho).1⟩
theorem enc_key {m : S_api_Message} (h : OkK m) : ∃ c, c ≤ 256 ∧ Enc 4 (.mk 4 0 [] (keyL m)) c (keyE m) := by
  obtain ⟨f1, f2⟩ := h.flt
  have hc0 := h.c0; have hc1 := h.c1
  have ha : Enc 3 (.mk 4 0 [] ((m.2.2.2.2.1.filter keepN).map itO)) (3 * (m.2.2.2.2.1.filter keepN).length + 1) (headS 4 ((m.2.2.2.2.1.filter keepN).map itO).length ++ (m.2.2.2.2.1.filter keepN).flatMap encO) :=
    .inr (.inr ⟨_, _, _, rfl, by rw [List.length_map]; omega, enc_opts f2, rfl, rfl⟩)
  have hp : ∃ c, c ≤ 1 ∧ EncL (Enc 3) (payL m) c (payE m) := by
    unfold payL payE
    cases m.2.1 == 5 with
    | false => exact ⟨0, by omega, .nil⟩
    | true => exact ⟨1, by omega, .cons (encB h.pay) .nil⟩
  obtain ⟨c, hc, hp⟩ := hp
  refine ⟨1 + (3 * (m.2.2.2.2.1.filter keepN).length + 1 + c) + 1, by omega, .inr (.inr ⟨keyL m, _, _, rfl, ?_, .cons (encU (by omega)) (.cons ha hp), rfl, rfl⟩)⟩
  unfold keyL payL
  cases m.2.1 == 5 <;> simp
end Go.Proofs.YtllomdfckciedaaDoor
