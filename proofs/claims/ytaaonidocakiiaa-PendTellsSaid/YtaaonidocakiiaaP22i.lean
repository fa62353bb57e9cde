import Derived.Test.YtaaonidocakiiaaP22f
set_option linter.unusedSimpArgs false
set_option linter.unusedVariables false
namespace Go.Proofs.Ytaaonidocakiiaa
open Go.Vi

theorem pendTells_pure (xs : List V) (h : wfAs [(false, [.l [.i .i64, .s, .i .i64]]), (true, [.i .i64, .s, .i .i64]), (true, [.i .i64, .i .i64, .i .i64])] xs) : call 4 xs [] = some (vb true, []) := by
  simp only [wfAs, wfA] at h
  obtain ⟨_, _, rfl, ⟨d, rfl, hd⟩, _, _, rfl, ⟨e, rfl, he⟩, _, _, rfl, ⟨n, rfl, hn⟩, rfl⟩ := h
  simp only [wfRow, wfT] at hd hn
  obtain ⟨_, _, e1, ⟨rows, rfl, hl, hr⟩, rfl⟩ := hd
  cases e1
  obtain ⟨_, _, rfl, ⟨n0, rfl, _⟩, _, _, rfl, ⟨n1, rfl, _⟩, _, _, rfl, ⟨n2, rfl, _⟩, rfl⟩ := hn
  obtain ⟨q, rfl, _⟩ := rows_map Entry.of rows hr
  obtain ⟨x, rfl, _⟩ := Entry.of e he
  exact law4 q (by simpa using hl) x n0 n1 n2
end Go.Proofs.Ytaaonidocakiiaa
