/-
  Requests that a proxy takes one after the other, plain facts. Of the models alone; no program; no condition but the lengths told.
-/
import Derived.Test.YtcbkmlfkfhfliaaDoorQ91
namespace Go.Proofs.YtcbkmlfkfhfliaaDoor
open Go.Gk Go.RowKit
def nmS (j : Nat) : Int := ((65533 + j) % 65536 : Nat)
def nbS (j : Nat) : List UInt8 := [toU8 (nmS j / 256), toU8 (nmS j)]
def hpS : Nat → List UInt8 → List S_api_Hop
  | _, [] => []
  | j, t :: r => ((j : Int), ([t], (nbS j, ([], false)))) :: hpS (j + 1) r
/-- The proxy when requests with these tokens have been taken. -/
def pxS (ts : List UInt8) : S_api_Proxy := (nmS ts.length, (hpS 0 ts, ([], -1)))
def rqS (t : UInt8) (i : Nat) : S_api_Message := (0, (2, (0, ([t], ([(9, [9, toU8 (i : Int)])], [])))))
theorem set_rq (t : UInt8) (i : Nat) : m_coresecref16_Set (0, (2, (0, ([t], ([], []))))) 9 [[9, toU8 (i : Int)]] = some (rqS t i) := by kernel_rfl

theorem fwd_0 ( t : UInt8) : ∃ u : S_api_Message, u.2.2.2.1 = nbS 0 ∧ m_relay_Forward (pxS []) ((0 : Nat) : Int) (rqS t 0) 1 = some (pxS [t], ([u], ([], 0))) := ⟨(1, (2, (nmS 0, (nbS 0, ([(9, [9, toU8 ((0 : Nat) : Int)])], []))))), rfl, by kernel_rfl⟩
theorem fwd_1 (a t : UInt8) : ∃ u : S_api_Message, u.2.2.2.1 = nbS 1 ∧ m_relay_Forward (pxS [a]) ((1 : Nat) : Int) (rqS t 1) 1 = some (pxS [a, t], ([u], ([], 0))) := ⟨(1, (2, (nmS 1, (nbS 1, ([(9, [9, toU8 ((1 : Nat) : Int)])], []))))), rfl, by kernel_rfl⟩
theorem fwd_2 (a b t : UInt8) : ∃ u : S_api_Message, u.2.2.2.1 = nbS 2 ∧ m_relay_Forward (pxS [a, b]) ((2 : Nat) : Int) (rqS t 2) 1 = some (pxS [a, b, t], ([u], ([], 0))) := ⟨(1, (2, (nmS 2, (nbS 2, ([(9, [9, toU8 ((2 : Nat) : Int)])], []))))), rfl, by kernel_rfl⟩
theorem fwd_3 (a b c t : UInt8) : ∃ u : S_api_Message, u.2.2.2.1 = nbS 3 ∧ m_relay_Forward (pxS [a, b, c]) ((3 : Nat) : Int) (rqS t 3) 1 = some (pxS [a, b, c, t], ([u], ([], 0))) := ⟨(1, (2, (nmS 3, (nbS 3, ([(9, [9, toU8 ((3 : Nat) : Int)])], []))))), rfl, by kernel_rfl⟩
theorem fwd_4 (a b c d t : UInt8) : ∃ u : S_api_Message, u.2.2.2.1 = nbS 4 ∧ m_relay_Forward (pxS [a, b, c, d]) ((4 : Nat) : Int) (rqS t 4) 1 = some (pxS [a, b, c, d, t], ([u], ([], 0))) := ⟨(1, (2, (nmS 4, (nbS 4, ([(9, [9, toU8 ((4 : Nat) : Int)])], []))))), rfl, by kernel_rfl⟩
theorem fwd_5 (a b c d e t : UInt8) : ∃ u : S_api_Message, u.2.2.2.1 = nbS 5 ∧ m_relay_Forward (pxS [a, b, c, d, e]) ((5 : Nat) : Int) (rqS t 5) 1 = some (pxS [a, b, c, d, e, t], ([u], ([], 0))) := ⟨(1, (2, (nmS 5, (nbS 5, ([(9, [9, toU8 ((5 : Nat) : Int)])], []))))), rfl, by kernel_rfl⟩
theorem fwd_6 (a b c d e f t : UInt8) : ∃ u : S_api_Message, u.2.2.2.1 = nbS 6 ∧ m_relay_Forward (pxS [a, b, c, d, e, f]) ((6 : Nat) : Int) (rqS t 6) 1 = some (pxS [a, b, c, d, e, f, t], ([u], ([], 0))) := ⟨(1, (2, (nmS 6, (nbS 6, ([(9, [9, toU8 ((6 : Nat) : Int)])], []))))), rfl, by kernel_rfl⟩
/-- One request more. -/
theorem fwdS (t : UInt8) : ∀ ts : List UInt8, ts.length ≤ 6 → ∃ u : S_api_Message, u.2.2.2.1 = nbS ts.length ∧ m_relay_Forward (pxS ts) (ts.length : Int) (rqS t ts.length) 1 = some (pxS (ts ++ [t]), ([u], ([], 0)))
  | [], _ => fwd_0  t
  | [a], _ => fwd_1 a t
  | [a, b], _ => fwd_2 a b t
  | [a, b, c], _ => fwd_3 a b c t
  | [a, b, c, d], _ => fwd_4 a b c d t
  | [a, b, c, d, e], _ => fwd_5 a b c d e t
  | [a, b, c, d, e, f], _ => fwd_6 a b c d e f t
  | _ :: _ :: _ :: _ :: _ :: _ :: _ :: _, h => by simp at h <;> omega
/-- What a proxy does with a response to request k. -/
structure RetOK (ts : List UInt8) (k : Nat) (t : UInt8) : Prop where
  v : m_relay_Valid (pxS ts) = some true
  f : m_relay_find (pxS ts).2.1 (nbS k) = some (k : Int)
  c : m_relay_cloned_o (pxS ts) = some ((nmS ts.length, ([], ([], -1))), hpS 0 ts)
  i : idx (pxS ts).2.1 (k : Int) = some ((k : Int), ([t], (nbS k, ([], false))))
  x : (bnd (Gk.cut (hpS 0 ts) 0 (k : Int)) fun x22 => bnd (Gk.cut (hpS 0 ts) (w64 ((k : Int) + 1)) ((hpS 0 ts).length : Int)) fun x24 => app x22 x24) = some ((hpS 0 ts).eraseIdx k)
  l : (((hpS 0 ts).eraseIdx k).length : Int) = w64 ((ts.length : Int) - 1)
  n : idx ((List.range ts.length).map nbS) (k : Int) = some (nbS k)
  t : idx (ts.map fun t => [t]) (k : Int) = some [t]
theorem ret_2_0 (a b : UInt8) : RetOK [a, b] 0 a := ⟨by kernel_rfl, by kernel_rfl, by kernel_rfl, by kernel_rfl, by kernel_rfl, by kernel_rfl, by kernel_rfl, by kernel_rfl⟩
theorem ret_2_1 (a b : UInt8) : RetOK [a, b] 1 b := ⟨by kernel_rfl, by kernel_rfl, by kernel_rfl, by kernel_rfl, by kernel_rfl, by kernel_rfl, by kernel_rfl, by kernel_rfl⟩
theorem ret_3_0 (a b c : UInt8) : RetOK [a, b, c] 0 a := ⟨by kernel_rfl, by kernel_rfl, by kernel_rfl, by kernel_rfl, by kernel_rfl, by kernel_rfl, by kernel_rfl, by kernel_rfl⟩
theorem ret_3_1 (a b c : UInt8) : RetOK [a, b, c] 1 b := ⟨by kernel_rfl, by kernel_rfl, by kernel_rfl, by kernel_rfl, by kernel_rfl, by kernel_rfl, by kernel_rfl, by kernel_rfl⟩
theorem ret_3_2 (a b c : UInt8) : RetOK [a, b, c] 2 c := ⟨by kernel_rfl, by kernel_rfl, by kernel_rfl, by kernel_rfl, by kernel_rfl, by kernel_rfl, by kernel_rfl, by kernel_rfl⟩
theorem ret_4_0 (a b c d : UInt8) : RetOK [a, b, c, d] 0 a := ⟨by kernel_rfl, by kernel_rfl, by kernel_rfl, by kernel_rfl, by kernel_rfl, by kernel_rfl, by kernel_rfl, by kernel_rfl⟩
theorem ret_4_1 (a b c d : UInt8) : RetOK [a, b, c, d] 1 b := ⟨by kernel_rfl, by kernel_rfl, by kernel_rfl, by kernel_rfl, by kernel_rfl, by kernel_rfl, by kernel_rfl, by kernel_rfl⟩
theorem ret_4_2 (a b c d : UInt8) : RetOK [a, b, c, d] 2 c := ⟨by kernel_rfl, by kernel_rfl, by kernel_rfl, by kernel_rfl, by kernel_rfl, by kernel_rfl, by kernel_rfl, by kernel_rfl⟩
theorem ret_4_3 (a b c d : UInt8) : RetOK [a, b, c, d] 3 d := ⟨by kernel_rfl, by kernel_rfl, by kernel_rfl, by kernel_rfl, by kernel_rfl, by kernel_rfl, by kernel_rfl, by kernel_rfl⟩
theorem ret_5_0 (a b c d e : UInt8) : RetOK [a, b, c, d, e] 0 a := ⟨by kernel_rfl, by kernel_rfl, by kernel_rfl, by kernel_rfl, by kernel_rfl, by kernel_rfl, by kernel_rfl, by kernel_rfl⟩
theorem ret_5_1 (a b c d e : UInt8) : RetOK [a, b, c, d, e] 1 b := ⟨by kernel_rfl, by kernel_rfl, by kernel_rfl, by kernel_rfl, by kernel_rfl, by kernel_rfl, by kernel_rfl, by kernel_rfl⟩
theorem ret_5_2 (a b c d e : UInt8) : RetOK [a, b, c, d, e] 2 c := ⟨by kernel_rfl, by kernel_rfl, by kernel_rfl, by kernel_rfl, by kernel_rfl, by kernel_rfl, by kernel_rfl, by kernel_rfl⟩
theorem ret_5_3 (a b c d e : UInt8) : RetOK [a, b, c, d, e] 3 d := ⟨by kernel_rfl, by kernel_rfl, by kernel_rfl, by kernel_rfl, by kernel_rfl, by kernel_rfl, by kernel_rfl, by kernel_rfl⟩
theorem ret_5_4 (a b c d e : UInt8) : RetOK [a, b, c, d, e] 4 e := ⟨by kernel_rfl, by kernel_rfl, by kernel_rfl, by kernel_rfl, by kernel_rfl, by kernel_rfl, by kernel_rfl, by kernel_rfl⟩
theorem ret_6_0 (a b c d e f : UInt8) : RetOK [a, b, c, d, e, f] 0 a := ⟨by kernel_rfl, by kernel_rfl, by kernel_rfl, by kernel_rfl, by kernel_rfl, by kernel_rfl, by kernel_rfl, by kernel_rfl⟩
theorem ret_6_1 (a b c d e f : UInt8) : RetOK [a, b, c, d, e, f] 1 b := ⟨by kernel_rfl, by kernel_rfl, by kernel_rfl, by kernel_rfl, by kernel_rfl, by kernel_rfl, by kernel_rfl, by kernel_rfl⟩
theorem ret_6_2 (a b c d e f : UInt8) : RetOK [a, b, c, d, e, f] 2 c := ⟨by kernel_rfl, by kernel_rfl, by kernel_rfl, by kernel_rfl, by kernel_rfl, by kernel_rfl, by kernel_rfl, by kernel_rfl⟩
theorem ret_6_3 (a b c d e f : UInt8) : RetOK [a, b, c, d, e, f] 3 d := ⟨by kernel_rfl, by kernel_rfl, by kernel_rfl, by kernel_rfl, by kernel_rfl, by kernel_rfl, by kernel_rfl, by kernel_rfl⟩
theorem ret_6_4 (a b c d e f : UInt8) : RetOK [a, b, c, d, e, f] 4 e := ⟨by kernel_rfl, by kernel_rfl, by kernel_rfl, by kernel_rfl, by kernel_rfl, by kernel_rfl, by kernel_rfl, by kernel_rfl⟩
theorem ret_6_5 (a b c d e f : UInt8) : RetOK [a, b, c, d, e, f] 5 f := ⟨by kernel_rfl, by kernel_rfl, by kernel_rfl, by kernel_rfl, by kernel_rfl, by kernel_rfl, by kernel_rfl, by kernel_rfl⟩
theorem ret_7_0 (a b c d e f g : UInt8) : RetOK [a, b, c, d, e, f, g] 0 a := ⟨by kernel_rfl, by kernel_rfl, by kernel_rfl, by kernel_rfl, by kernel_rfl, by kernel_rfl, by kernel_rfl, by kernel_rfl⟩
theorem ret_7_1 (a b c d e f g : UInt8) : RetOK [a, b, c, d, e, f, g] 1 b := ⟨by kernel_rfl, by kernel_rfl, by kernel_rfl, by kernel_rfl, by kernel_rfl, by kernel_rfl, by kernel_rfl, by kernel_rfl⟩
theorem ret_7_2 (a b c d e f g : UInt8) : RetOK [a, b, c, d, e, f, g] 2 c := ⟨by kernel_rfl, by kernel_rfl, by kernel_rfl, by kernel_rfl, by kernel_rfl, by kernel_rfl, by kernel_rfl, by kernel_rfl⟩
theorem ret_7_3 (a b c d e f g : UInt8) : RetOK [a, b, c, d, e, f, g] 3 d := ⟨by kernel_rfl, by kernel_rfl, by kernel_rfl, by kernel_rfl, by kernel_rfl, by kernel_rfl, by kernel_rfl, by kernel_rfl⟩
theorem ret_7_4 (a b c d e f g : UInt8) : RetOK [a, b, c, d, e, f, g] 4 e := ⟨by kernel_rfl, by kernel_rfl, by kernel_rfl, by kernel_rfl, by kernel_rfl, by kernel_rfl, by kernel_rfl, by kernel_rfl⟩
theorem ret_7_5 (a b c d e f g : UInt8) : RetOK [a, b, c, d, e, f, g] 5 f := ⟨by kernel_rfl, by kernel_rfl, by kernel_rfl, by kernel_rfl, by kernel_rfl, by kernel_rfl, by kernel_rfl, by kernel_rfl⟩
theorem ret_7_6 (a b c d e f g : UInt8) : RetOK [a, b, c, d, e, f, g] 6 g := ⟨by kernel_rfl, by kernel_rfl, by kernel_rfl, by kernel_rfl, by kernel_rfl, by kernel_rfl, by kernel_rfl, by kernel_rfl⟩
theorem retS : ∀ (ts : List UInt8) (k : Nat), 2 ≤ ts.length → ts.length ≤ 7 → k < ts.length → ∃ t, RetOK ts k t
  | [], _, h, _, _ => by simp at h
  | [_], _, h, _, _ => by simp at h
  | [a, b], 0, _, _, _ => ⟨_, ret_2_0 a b⟩
  | [a, b], 1, _, _, _ => ⟨_, ret_2_1 a b⟩
  | [_, _], k + 2, _, _, h => by simp at h <;> omega
  | [a, b, c], 0, _, _, _ => ⟨_, ret_3_0 a b c⟩
  | [a, b, c], 1, _, _, _ => ⟨_, ret_3_1 a b c⟩
  | [a, b, c], 2, _, _, _ => ⟨_, ret_3_2 a b c⟩
  | [_, _, _], k + 3, _, _, h => by simp at h <;> omega
  | [a, b, c, d], 0, _, _, _ => ⟨_, ret_4_0 a b c d⟩
  | [a, b, c, d], 1, _, _, _ => ⟨_, ret_4_1 a b c d⟩
  | [a, b, c, d], 2, _, _, _ => ⟨_, ret_4_2 a b c d⟩
  | [a, b, c, d], 3, _, _, _ => ⟨_, ret_4_3 a b c d⟩
  | [_, _, _, _], k + 4, _, _, h => by simp at h <;> omega
  | [a, b, c, d, e], 0, _, _, _ => ⟨_, ret_5_0 a b c d e⟩
  | [a, b, c, d, e], 1, _, _, _ => ⟨_, ret_5_1 a b c d e⟩
  | [a, b, c, d, e], 2, _, _, _ => ⟨_, ret_5_2 a b c d e⟩
  | [a, b, c, d, e], 3, _, _, _ => ⟨_, ret_5_3 a b c d e⟩
  | [a, b, c, d, e], 4, _, _, _ => ⟨_, ret_5_4 a b c d e⟩
  | [_, _, _, _, _], k + 5, _, _, h => by simp at h <;> omega
  | [a, b, c, d, e, f], 0, _, _, _ => ⟨_, ret_6_0 a b c d e f⟩
  | [a, b, c, d, e, f], 1, _, _, _ => ⟨_, ret_6_1 a b c d e f⟩
  | [a, b, c, d, e, f], 2, _, _, _ => ⟨_, ret_6_2 a b c d e f⟩
  | [a, b, c, d, e, f], 3, _, _, _ => ⟨_, ret_6_3 a b c d e f⟩
  | [a, b, c, d, e, f], 4, _, _, _ => ⟨_, ret_6_4 a b c d e f⟩
  | [a, b, c, d, e, f], 5, _, _, _ => ⟨_, ret_6_5 a b c d e f⟩
  | [_, _, _, _, _, _], k + 6, _, _, h => by simp at h <;> omega
  | [a, b, c, d, e, f, g], 0, _, _, _ => ⟨_, ret_7_0 a b c d e f g⟩
  | [a, b, c, d, e, f, g], 1, _, _, _ => ⟨_, ret_7_1 a b c d e f g⟩
  | [a, b, c, d, e, f, g], 2, _, _, _ => ⟨_, ret_7_2 a b c d e f g⟩
  | [a, b, c, d, e, f, g], 3, _, _, _ => ⟨_, ret_7_3 a b c d e f g⟩
  | [a, b, c, d, e, f, g], 4, _, _, _ => ⟨_, ret_7_4 a b c d e f g⟩
  | [a, b, c, d, e, f, g], 5, _, _, _ => ⟨_, ret_7_5 a b c d e f g⟩
  | [a, b, c, d, e, f, g], 6, _, _, _ => ⟨_, ret_7_6 a b c d e f g⟩
  | [_, _, _, _, _, _, _], k + 7, _, _, h => by simp at h <;> omega
  | _ :: _ :: _ :: _ :: _ :: _ :: _ :: _ :: _, _, _, h, _ => by simp at h <;> omega
end Go.Proofs.YtcbkmlfkfhfliaaDoor
