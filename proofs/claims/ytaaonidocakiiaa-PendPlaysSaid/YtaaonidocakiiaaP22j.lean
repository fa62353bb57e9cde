import Derived.Test.YtaaonidocakiiaaP22h
set_option linter.unusedSimpArgs false
set_option linter.unusedVariables false
namespace Go.Proofs.Ytaaonidocakiiaa
open Go.Vi

theorem encU.of (r : List D) (h : wfRow [.i .u8] r) : ∃ a : Int, r = encU a ∧ (0 ≤ a ∧ a < 256) := by
  simp only [wfRow, wfT] at h
  obtain ⟨_, _, rfl, ⟨a, rfl, h1, h2⟩, rfl⟩ := h
  exact ⟨a, rfl, Int.le_trans (by decide) h1, Int.lt_of_le_of_lt h2 (by decide)⟩
theorem pendPlays_pure (xs : List V) (h : wfAs [(false, [.l [.i .u8]]), (false, [.i .u8])] xs) : call 5 xs [] = some (vb true, []) := by
  simp only [wfAs, wfA] at h
  obtain ⟨_, _, rfl, ⟨d, rfl, hd⟩, _, _, rfl, ⟨e, rfl, he⟩, rfl⟩ := h
  simp only [wfRow, wfT] at hd he
  obtain ⟨_, _, e1, ⟨rows, rfl, hl, hr⟩, rfl⟩ := hd
  cases e1
  obtain ⟨_, _, e2, ⟨m, rfl, h1, h2⟩, rfl⟩ := he
  cases e2
  obtain ⟨acts, rfl, ha⟩ := rows_map encU.of rows hr
  exact law5 acts ha m ⟨Int.le_trans (by decide) h1, Int.lt_of_le_of_lt h2 (by decide)⟩ (by simpa using hl)
end Go.Proofs.Ytaaonidocakiiaa
