/-
  Scopes: what both or one of two permit (ScopeLattice), the law. Of the models alone; no program; no condition but the ranges told.
-/
import Derived.Test.YtmnbkcpopfmpdaaDoorQ84
namespace Go.Proofs.YtmnbkcpopfmpdaaDoor
open Go.Gk Go.RowKit
theorem lat_in {a b m j x : List S_api_Permit} {e1 e2 : Int} {p : List UInt8} (h1 : ∀ c, Cr c → (e1 == 0) = true → permS m p c = (permS a p c && permS b p c)) (h2 : ∀ c, Cr c → (e2 == 0) = true → permS j p c = (permS a p c || permS b p c)) (h3 : ∀ c, Cr c → permS x p c = permS a p c) : ∀ (n f : Nat) (c : Int), c = 8 - (n : Int) → n ≤ 7 → n < f →
    loopF (R := ((Bool ⊕ Unit) ⊕ Unit)) (S := Int) (fun self30 s29 =>
    letm (decide (s29 ≤ 7)) fun x31 =>
    cond x31 (bnd (m_scope_Permits a p s29) fun x32 =>
    bnd (m_scope_Permits b p s29) fun x33 =>
    bnd (β := Bool) (letm ((e1 == 0)) fun x34 =>
    cond x34 (bnd (m_scope_Permits m p s29) fun x35 =>
    cond x32 (letm ((x35 != x33)) fun x36 =>
    cond x36 (some true)
     (letm ((e2 == 0)) fun x37 =>
    cond x37 (bnd (m_scope_Permits j p s29) fun x38 =>
    cond x32 (letm ((x38 != true)) fun x39 =>
    cond x39 (some true)
     (bnd (m_scope_Permits x p s29) fun x40 =>
    letm ((x40 != x32)) fun x41 =>
    some x41))
     (letm ((x38 != x33)) fun x42 =>
    cond x42 (some true)
     (bnd (m_scope_Permits x p s29) fun x43 =>
    letm ((x43 != x32)) fun x44 =>
    some x44)))
     (bnd (m_scope_Permits x p s29) fun x45 =>
    letm ((x45 != x32)) fun x46 =>
    some x46)))
     (letm ((x35 != false)) fun x47 =>
    cond x47 (some true)
     (letm ((e2 == 0)) fun x48 =>
    cond x48 (bnd (m_scope_Permits j p s29) fun x49 =>
    cond x32 (letm ((x49 != true)) fun x50 =>
    cond x50 (some true)
     (bnd (m_scope_Permits x p s29) fun x51 =>
    letm ((x51 != x32)) fun x52 =>
    some x52))
     (letm ((x49 != x33)) fun x53 =>
    cond x53 (some true)
     (bnd (m_scope_Permits x p s29) fun x54 =>
    letm ((x54 != x32)) fun x55 =>
    some x55)))
     (bnd (m_scope_Permits x p s29) fun x56 =>
    letm ((x56 != x32)) fun x57 =>
    some x57))))
     (letm ((e2 == 0)) fun x58 =>
    cond x58 (bnd (m_scope_Permits j p s29) fun x59 =>
    cond x32 (letm ((x59 != true)) fun x60 =>
    cond x60 (some true)
     (bnd (m_scope_Permits x p s29) fun x61 =>
    letm ((x61 != x32)) fun x62 =>
    some x62))
     (letm ((x59 != x33)) fun x63 =>
    cond x63 (some true)
     (bnd (m_scope_Permits x p s29) fun x64 =>
    letm ((x64 != x32)) fun x65 =>
    some x65)))
     (bnd (m_scope_Permits x p s29) fun x66 =>
    letm ((x66 != x32)) fun x67 =>
    some x67))) fun v68 =>
    cond v68 (some (.inl (.inl false)))
     (letm ((w64 (s29 + 1))) fun x69 =>
    self30 x69))
     (some (.inr ()))) f c = some (.inr ())
  | 0, f + 1, c, hc, _, _ => by rw [loopF_succ, letm_e, decide_eq_false (by omega), cd_f]
  | n + 1, f + 1, c, hc, hn, hf => by
    have hcr : Cr c := ⟨by omega, by omega⟩
    have next := lat_in h1 h2 h3 n f (c + 1) (by omega) (by omega) (by omega)
    have g1 := h1 c hcr
    have g2 := h2 c hcr
    have g3 := h3 c hcr
    rw [loopF_succ, letm_e, decide_eq_true (by omega : c ≤ 7), cd_t]
    simp only [permits_eq, bnd_s, letm_e] at next ⊢
    rw [w64_of (by omega) (by omega), g3]
    generalize permS m p c = pm at g1 ⊢
    generalize permS j p c = pj at g2 ⊢
    generalize permS a p c = pa at g1 g2 ⊢
    generalize permS b p c = pb at g1 g2 ⊢
    cases he1 : (e1 == 0) with
    | true =>
      rw [he1] at g1 next
      rw [g1 rfl]
      cases he2 : (e2 == 0) with
      | true =>
        rw [he2] at g2 next
        rw [g2 rfl]
        cases pa <;> cases pb <;> exact next
      | false =>
        rw [he2] at next
        cases pa <;> cases pb <;> exact next
    | false =>
      rw [he1] at next
      cases he2 : (e2 == 0) with
      | true =>
        rw [he2] at g2 next
        rw [g2 rfl]
        cases pa <;> cases pb <;> exact next
      | false =>
        rw [he2] at next
        cases pa <;> cases pb <;> exact next
/-- The law behind the drawing. -/
theorem lat_end {a b c m j x : List S_api_Permit} {e1 e2 : Int} {p0 : List UInt8} (he1 : e1 = 0 ∨ e1 = 8) (he2 : e2 = 0 ∨ e2 = 8) (h1 : ∀ p c, Cr c → (e1 == 0) = true → permS m p c = (permS a p c && permS b p c)) (h2 : ∀ p c, Cr c → (e2 == 0) = true → permS j p c = (permS a p c || permS b p c)) (h3 : ∀ p c, Cr c → permS x p c = permS a p c)
    (hm : (e1 == 0) = true → withS m a = true ∧ withS m b = true ∧ (withS c a = true → withS c b = withS c m)) (hj : (e2 == 0) = true → withS a j = true ∧ withS b j = true ∧ (withS a c = true → withS b c = withS j c)) (hn : m_scope_Normal a = some x) (hx : m_scope_Normal x = some x) (hs : m_coresecref39_Same x x = some true) :
    (bnd (β := Bool) (letm ((e1 != 0)) fun x14 =>
    cond x14 (letm ((e1 != 8)) fun x15 =>
    cond x15 (some true)
     (letm ((e2 != 0)) fun x16 =>
    cond x16 (letm ((e2 != 8)) fun x17 =>
    some x17)
     (some false)))
     (letm ((e2 != 0)) fun x18 =>
    cond x18 (letm ((e2 != 8)) fun x19 =>
    some x19)
     (some false))) fun v20 =>
    cond v20 (some false)
     (bnd (m_scope_Normal a) fun x =>
    bndS (ρ := Bool) (ρ' := Bool) (Y := Unit) (bnd (m_coreseclaw39_paths p0) fun x22 =>
    loopL (R := (Bool ⊕ Unit)) (S := Unit) (α := (List UInt8)) (fun k23 s24 =>
    some (.inr ()))
     (fun x25 k26 s27 self28 =>
    bndS (ρ := (Bool ⊕ Unit)) (ρ' := (Bool ⊕ Unit)) (Y := Unit) (loopF (R := ((Bool ⊕ Unit) ⊕ Unit)) (S := Int) (fun self30 s29 =>
    letm (decide (s29 ≤ 7)) fun x31 =>
    cond x31 (bnd (m_scope_Permits a x25 s29) fun x32 =>
    bnd (m_scope_Permits b x25 s29) fun x33 =>
    bnd (β := Bool) (letm ((e1 == 0)) fun x34 =>
    cond x34 (bnd (m_scope_Permits m x25 s29) fun x35 =>
    cond x32 (letm ((x35 != x33)) fun x36 =>
    cond x36 (some true)
     (letm ((e2 == 0)) fun x37 =>
    cond x37 (bnd (m_scope_Permits j x25 s29) fun x38 =>
    cond x32 (letm ((x38 != true)) fun x39 =>
    cond x39 (some true)
     (bnd (m_scope_Permits x x25 s29) fun x40 =>
    letm ((x40 != x32)) fun x41 =>
    some x41))
     (letm ((x38 != x33)) fun x42 =>
    cond x42 (some true)
     (bnd (m_scope_Permits x x25 s29) fun x43 =>
    letm ((x43 != x32)) fun x44 =>
    some x44)))
     (bnd (m_scope_Permits x x25 s29) fun x45 =>
    letm ((x45 != x32)) fun x46 =>
    some x46)))
     (letm ((x35 != false)) fun x47 =>
    cond x47 (some true)
     (letm ((e2 == 0)) fun x48 =>
    cond x48 (bnd (m_scope_Permits j x25 s29) fun x49 =>
    cond x32 (letm ((x49 != true)) fun x50 =>
    cond x50 (some true)
     (bnd (m_scope_Permits x x25 s29) fun x51 =>
    letm ((x51 != x32)) fun x52 =>
    some x52))
     (letm ((x49 != x33)) fun x53 =>
    cond x53 (some true)
     (bnd (m_scope_Permits x x25 s29) fun x54 =>
    letm ((x54 != x32)) fun x55 =>
    some x55)))
     (bnd (m_scope_Permits x x25 s29) fun x56 =>
    letm ((x56 != x32)) fun x57 =>
    some x57))))
     (letm ((e2 == 0)) fun x58 =>
    cond x58 (bnd (m_scope_Permits j x25 s29) fun x59 =>
    cond x32 (letm ((x59 != true)) fun x60 =>
    cond x60 (some true)
     (bnd (m_scope_Permits x x25 s29) fun x61 =>
    letm ((x61 != x32)) fun x62 =>
    some x62))
     (letm ((x59 != x33)) fun x63 =>
    cond x63 (some true)
     (bnd (m_scope_Permits x x25 s29) fun x64 =>
    letm ((x64 != x32)) fun x65 =>
    some x65)))
     (bnd (m_scope_Permits x x25 s29) fun x66 =>
    letm ((x66 != x32)) fun x67 =>
    some x67))) fun v68 =>
    cond v68 (some (.inl (.inl false)))
     (letm ((w64 (s29 + 1))) fun x69 =>
    self30 x69))
     (some (.inr ()))) FUEL 1) (fun q => q) fun v70 =>
    self28 ()) x22 0 ()) (fun q => q) fun v71 =>
    bnd (β := Bool) (letm ((e1 == 0)) fun x72 =>
    cond x72 (bnd (m_scope_Within m a) fun x73 =>
    letm ((!x73)) fun x74 =>
    cond x74 (some true)
     (bnd (m_scope_Within m b) fun x75 =>
    letm ((!x75)) fun x76 =>
    cond x76 (some true)
     (bnd (m_scope_Within c a) fun x77 =>
    cond x77 (bnd (m_scope_Within c b) fun x78 =>
    bnd (m_scope_Within c m) fun x79 =>
    letm ((x78 != x79)) fun x80 =>
    some x80)
     (some false))))
     (some false)) fun v81 =>
    cond v81 (some false)
     (bnd (β := Bool) (letm ((e2 == 0)) fun x82 =>
    cond x82 (bnd (m_scope_Within a j) fun x83 =>
    letm ((!x83)) fun x84 =>
    cond x84 (some true)
     (bnd (m_scope_Within b j) fun x85 =>
    letm ((!x85)) fun x86 =>
    cond x86 (some true)
     (bnd (m_scope_Within a c) fun x87 =>
    cond x87 (bnd (m_scope_Within b c) fun x88 =>
    bnd (m_scope_Within j c) fun x89 =>
    letm ((x88 != x89)) fun x90 =>
    some x90)
     (some false))))
     (some false)) fun v91 =>
    cond v91 (some false)
     (bnd (β := Bool) (bnd (m_scope_Normal x) fun x92 =>
    bnd (m_coresecref39_Same x92 x) fun x93 =>
    cond x93 (bnd (m_coreseclaw39_awake ) fun x94 =>
    some x94)
     (some false)) fun v95 =>
    some v95))) : Option Bool) = some true := by
  have g0 : (bnd (β := Bool) (letm ((e1 != 0)) fun x14 => cond x14 (letm ((e1 != 8)) fun x15 => cond x15 (some true) (letm ((e2 != 0)) fun x16 => cond x16 (letm ((e2 != 8)) fun x17 => some x17) (some false))) (letm ((e2 != 0)) fun x18 => cond x18 (letm ((e2 != 8)) fun x19 => some x19) (some false))) fun v20 => some v20) = some false := by
    rcases he1 with rfl | rfl <;> rcases he2 with rfl | rfl <;> rfl
  rw [bnd_id] at g0
  rw [g0, bnd_s, cd_f, hn, bnd_s]
  unfold m_coreseclaw39_paths
  rw [bnd_s]
  have hl : ∀ (xs : List (List UInt8)) (k : Nat), loopL (R := (Bool ⊕ Unit)) (S := Unit) (α := (List UInt8)) (fun k23 s24 => some (.inr ())) (fun x25 k26 s27 self28 =>
    bndS (ρ := (Bool ⊕ Unit)) (ρ' := (Bool ⊕ Unit)) (Y := Unit) (loopF (R := ((Bool ⊕ Unit) ⊕ Unit)) (S := Int) (fun self30 s29 =>
    letm (decide (s29 ≤ 7)) fun x31 =>
    cond x31 (bnd (m_scope_Permits a x25 s29) fun x32 =>
    bnd (m_scope_Permits b x25 s29) fun x33 =>
    bnd (β := Bool) (letm ((e1 == 0)) fun x34 =>
    cond x34 (bnd (m_scope_Permits m x25 s29) fun x35 =>
    cond x32 (letm ((x35 != x33)) fun x36 =>
    cond x36 (some true)
     (letm ((e2 == 0)) fun x37 =>
    cond x37 (bnd (m_scope_Permits j x25 s29) fun x38 =>
    cond x32 (letm ((x38 != true)) fun x39 =>
    cond x39 (some true)
     (bnd (m_scope_Permits x x25 s29) fun x40 =>
    letm ((x40 != x32)) fun x41 =>
    some x41))
     (letm ((x38 != x33)) fun x42 =>
    cond x42 (some true)
     (bnd (m_scope_Permits x x25 s29) fun x43 =>
    letm ((x43 != x32)) fun x44 =>
    some x44)))
     (bnd (m_scope_Permits x x25 s29) fun x45 =>
    letm ((x45 != x32)) fun x46 =>
    some x46)))
     (letm ((x35 != false)) fun x47 =>
    cond x47 (some true)
     (letm ((e2 == 0)) fun x48 =>
    cond x48 (bnd (m_scope_Permits j x25 s29) fun x49 =>
    cond x32 (letm ((x49 != true)) fun x50 =>
    cond x50 (some true)
     (bnd (m_scope_Permits x x25 s29) fun x51 =>
    letm ((x51 != x32)) fun x52 =>
    some x52))
     (letm ((x49 != x33)) fun x53 =>
    cond x53 (some true)
     (bnd (m_scope_Permits x x25 s29) fun x54 =>
    letm ((x54 != x32)) fun x55 =>
    some x55)))
     (bnd (m_scope_Permits x x25 s29) fun x56 =>
    letm ((x56 != x32)) fun x57 =>
    some x57))))
     (letm ((e2 == 0)) fun x58 =>
    cond x58 (bnd (m_scope_Permits j x25 s29) fun x59 =>
    cond x32 (letm ((x59 != true)) fun x60 =>
    cond x60 (some true)
     (bnd (m_scope_Permits x x25 s29) fun x61 =>
    letm ((x61 != x32)) fun x62 =>
    some x62))
     (letm ((x59 != x33)) fun x63 =>
    cond x63 (some true)
     (bnd (m_scope_Permits x x25 s29) fun x64 =>
    letm ((x64 != x32)) fun x65 =>
    some x65)))
     (bnd (m_scope_Permits x x25 s29) fun x66 =>
    letm ((x66 != x32)) fun x67 =>
    some x67))) fun v68 =>
    cond v68 (some (.inl (.inl false)))
     (letm ((w64 (s29 + 1))) fun x69 =>
    self30 x69))
     (some (.inr ()))) FUEL 1) (fun q => q) fun v70 =>
    self28 ()) xs k () = some (.inr ()) := fun xs k => by
    refine (loopL_pass xs k fun p _ k self => ?_)
    rw [lat_in (h1 p) (h2 p) (h3 p) 7 FUEL 1 (by omega) (by omega) (by rw [fuel_eq]; omega)]; rfl
  rw [hl, bndS_r]
  simp only [within_eq, bnd_s, letm_e, hx, hs, awake39]
  have t1 : (cond (e1 == 0) (cond (!withS m a) (some true) (cond (!withS m b) (some true) (cond (withS c a) (some (withS c b != withS c m)) (some false)))) (some false) : Option Bool) = some false := by
    cases h : (e1 == 0) with
    | false => rfl
    | true =>
      obtain ⟨i1, i2, i3⟩ := hm h
      rw [i1, i2]
      cases hc : withS c a with
      | false => rfl
      | true => rw [← i3 hc, bne_self_eq_false]; rfl
  have t2 : (cond (e2 == 0) (cond (!withS a j) (some true) (cond (!withS b j) (some true) (cond (withS a c) (some (withS b c != withS j c)) (some false)))) (some false) : Option Bool) = some false := by
    cases h : (e2 == 0) with
    | false => rfl
    | true =>
      obtain ⟨i1, i2, i3⟩ := hj h
      rw [i1, i2]
      cases hc : withS a c with
      | false => rfl
      | true => rw [← i3 hc, bne_self_eq_false]; rfl
  rw [t1, bnd_s, cd_f, t2, bnd_s, cd_f]; rfl
theorem ScopeLattice_true (a0 a1 a2 : List Int) (a3 : List UInt8) (h0 : a0.length ≤ maxLen) (h1 : a1.length ≤ maxLen) (h2 : a2.length ≤ maxLen) : m_coreseclaw39_ScopeLattice a0 a1 a2 a3 = some true := by
  unfold m_coreseclaw39_ScopeLattice
  rw [letm_e, awake39]
  cases decide (300 < (a3.length : Int)) with
  | true => rfl
  | false =>
    rw [cd_f]
    obtain ⟨a, _, ea, la, fa, _⟩ := scope_some (new_ok h0)
    obtain ⟨b, _, eb, lb, fb, _⟩ := scope_some (new_ok h1)
    obtain ⟨c, _, ec, lc, fc, _⟩ := scope_some (new_ok h2)
    have va := valid_of la fa
    have vb := valid_of lb fb
    have vc := valid_of lc fc
    have e0 : m_coresecmake_New a0 = some (a0, 0) := rfl
    have e1 : m_coresecmake_New a1 = some (a1, 0) := rfl
    have e2 : m_coresecmake_New a2 = some (a2, 0) := rfl
    obtain ⟨x, nx, nfx⟩ := normal_eq va
    have lx : x.length ≤ 4 := by have := nfx.len; omega
    have vx : validS x = true := nf_valid nfx (valid_wr va) (by omega)
    obtain ⟨x', nx', nfx'⟩ := normal_eq vx
    have exx : x' = x := nfx'.uniq (norm_norm nfx) fun _ _ _ => Iff.rfl
    subst exx
    have hsame : m_coresecref39_Same x' x' = some true := by rw [same_eq (by omega), decide_eq_true rfl]
    obtain ⟨m, nfm, _, em⟩ := Meet_eq va vb
    obtain ⟨j, nfj, _, ej⟩ := Join_eq va vb
    have wrm : ∀ q ∈ meetL a b, wrS q.1 = true := fun q hq => by
      obtain ⟨v, hv, hk⟩ := meet_key hq
      have hvq : v.1 = q.1 := congrArg (fun k : Ky => k.1) hk
      rw [← hvq]
      rcases hv with hv | hv
      · exact valid_wr va v hv
      · exact valid_wr vb v hv
    have wrj : ∀ q ∈ a ++ b, wrS q.1 = true := fun q hq => by
      rcases List.mem_append.1 hq with hq | hq
      · exact valid_wr va q hq
      · exact valid_wr vb q hq
    rw [e0, bnd_s, ea, bnd_s, e1, bnd_s, eb, bnd_s, e2, bnd_s, ec, bnd_s, em, bnd_s, ej, bnd_s]
    refine lat_end (a := a) (b := b) (c := c) (x := x') ?_ ?_ (fun p d hd he => ?_) (fun p d hd he => ?_) (fun p d hd => norm_perm va vx nfx hd p) (fun he => ?_) (fun he => ?_) nx nx' hsame
    · cases decide (8 < (m.length : Int)) with
      | true => exact .inr rfl
      | false => exact .inl rfl
    · cases decide (8 < (j.length : Int)) with
      | true => exact .inr rfl
      | false => exact .inl rfl
    · by_cases h8 : m.length ≤ 8
      · rw [decide_eq_false (by omega)]
        exact meet_perm va vb (nf_valid nfm wrm h8) nfm hd p
      · rw [decide_eq_true (by omega)] at he; cases he
    · by_cases h8 : j.length ≤ 8
      · rw [decide_eq_false (by omega)]
        exact join_perm va vb (nf_valid nfj wrj h8) nfj hd p
      · rw [decide_eq_true (by omega)] at he; cases he
    · by_cases h8 : m.length ≤ 8
      · rw [decide_eq_false (by omega)]
        have vm := nf_valid nfm wrm h8
        exact ⟨(meet_in va vb vm nfm).1, (meet_in va vb vm nfm).2, meet_great va vb vc vm nfm⟩
      · rw [decide_eq_true (by omega)] at he; cases he
    · by_cases h8 : j.length ≤ 8
      · rw [decide_eq_false (by omega)]
        have vj := nf_valid nfj wrj h8
        exact ⟨(join_in va vb vj nfj).1, (join_in va vb vj nfj).2, join_least va vb vc vj nfj⟩
      · rw [decide_eq_true (by omega)] at he; cases he
end Go.Proofs.YtmnbkcpopfmpdaaDoor
