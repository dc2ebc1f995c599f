/-
  Options, plain facts: what numbers say (OptionNumbers); which numbers values are (OptionUints). Of the models alone; no program; no condition.
-/
import Derived.Test.YtllomdfckciedaaDoorQMk
import Derived.Test.YtllomdfckciedaaDoorQ18
namespace Go.Proofs.YtllomdfckciedaaDoor
open Go.Gk Go.RowKit
theorem awake16 : m_coreseclaw16_awake = some true := by kernel_rfl
theorem bnd_id {α : Type} (m : Option α) : bnd m (fun v => some v) = m := by cases m <;> rfl
theorem in_some (n : Int) : ∃ b, m_option_in n = some b := by
  unfold m_option_in
  simp only [letm_e, cd_and, bnd_s]
  exact ⟨_, rfl⟩
theorem crit_some (n : Int) : ∃ b, m_option_Critical n = some b := by
  obtain ⟨b, hb⟩ := in_some n
  unfold m_option_Critical
  rw [hb]
  cases b <;> exact ⟨_, rfl⟩
theorem nokey_some (n : Int) : ∃ b, m_option_NoCacheKey n = some b := by
  obtain ⟨b, hb⟩ := in_some n
  unfold m_option_NoCacheKey
  rw [hb]
  cases b <;> exact ⟨_, rfl⟩
end Go.Proofs.YtllomdfckciedaaDoor
