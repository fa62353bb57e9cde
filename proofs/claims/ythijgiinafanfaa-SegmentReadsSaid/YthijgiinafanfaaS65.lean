import Derived.Test.YthijgiinafanfaaS64
set_option linter.unusedSimpArgs false
set_option linter.unusedVariables false
namespace Go.Proofs.Ythijgiinafanfaa
open Go.Vi

theorem encS.of (r : List D) (h : wfRow [.s] r) : ∃ s : List UInt8, r = encS s ∧ s.length ≤ 9223372036854775807 := by
  simp only [wfRow, wfT] at h
  obtain ⟨_, _, rfl, ⟨a, rfl, h1⟩, rfl⟩ := h
  exact ⟨a, rfl, h1⟩
theorem segmentScans_pure (xs : List V) (h : wfAs [(false, [.s]), (false, [.i .i64]), (false, [.i .u8])] xs) : call 3 xs [] = some (vb true, []) := by
  simp only [wfAs, wfA] at h
  obtain ⟨_, _, rfl, ⟨d, rfl, hd⟩, _, _, rfl, ⟨e, rfl, he⟩, _, _, rfl, ⟨n, rfl, hn⟩, rfl⟩ := h
  simp only [wfRow, wfT] at hd he hn
  obtain ⟨_, _, e1, ⟨s, rfl, hs⟩, rfl⟩ := hd
  obtain ⟨_, _, e2, ⟨b, rfl, h1, h2⟩, rfl⟩ := he
  obtain ⟨_, _, e3, ⟨c, rfl, h3, h4⟩, rfl⟩ := hn
  cases e1; cases e2; cases e3
  have h1' : -9223372036854775808 ≤ b := Int.le_trans (by decide) h1
  have h2' : b < 9223372036854775808 := Int.lt_of_le_of_lt h2 (by decide)
  have h3' : 0 ≤ c := Int.le_trans (by decide) h3
  have h4' : c < 256 := Int.lt_of_le_of_lt h4 (by decide)
  have ec : ((c.toNat : Nat) : Int) = c := Int.toNat_of_nonneg h3'
  have := segScans_law1 s hs b ⟨h1', h2'⟩ c.toNat (by omega)
  rw [ec] at this
  exact this
theorem segmentReads_pure (xs : List V) (h : wfAs [(true, [.s, .i .i64, .i .i64, .i .u8])] xs) : call 4 xs [] = some (vb true, []) := by
  simp only [wfAs, wfA] at h
  obtain ⟨_, _, rfl, ⟨d, rfl, hd⟩, rfl⟩ := h
  simp only [wfRow, wfT] at hd
  obtain ⟨_, _, rfl, ⟨s, rfl, hs⟩, _, _, rfl, ⟨b, rfl, h1, h2⟩, _, _, rfl, ⟨o, rfl, h5, h6⟩, _, _, rfl, ⟨c, rfl, h3, h4⟩, rfl⟩ := hd
  have h1' : -9223372036854775808 ≤ b := Int.le_trans (by decide) h1
  have h2' : b < 9223372036854775808 := Int.lt_of_le_of_lt h2 (by decide)
  have h3' : 0 ≤ c := Int.le_trans (by decide) h3
  have h4' : c < 256 := Int.lt_of_le_of_lt h4 (by decide)
  have ec : ((c.toNat : Nat) : Int) = c := Int.toNat_of_nonneg h3'
  have := segReads_law1 s hs b o ⟨h1', h2'⟩ c.toNat (by omega)
  rw [ec] at this
  exact this
theorem segmentCut_pure (xs : List V) (h : wfAs [(false, [.i .u16]), (false, [.l [.s]]), (false, [.i .u16])] xs) : call 5 xs [] = some (vb true, []) := by
  simp only [wfAs, wfA] at h
  obtain ⟨_, _, rfl, ⟨d, rfl, hd⟩, _, _, rfl, ⟨e, rfl, he⟩, _, _, rfl, ⟨n, rfl, hn⟩, rfl⟩ := h
  simp only [wfRow, wfT] at hd he hn
  obtain ⟨_, _, e1, ⟨b, rfl, h1, h2⟩, rfl⟩ := hd
  obtain ⟨_, _, e2, ⟨rows, rfl, hl, hr⟩, rfl⟩ := he
  obtain ⟨_, _, e3, ⟨c, rfl, h3, h4⟩, rfl⟩ := hn
  cases e1; cases e2; cases e3
  obtain ⟨l, rfl, ha⟩ := rows_map encS.of rows hr
  have h1' : 0 ≤ b := Int.le_trans (by decide) h1
  have h2' : b < 65536 := Int.lt_of_le_of_lt h2 (by decide)
  have h3' : 0 ≤ c := Int.le_trans (by decide) h3
  have h4' : c < 65536 := Int.lt_of_le_of_lt h4 (by decide)
  have ec : ((c.toNat : Nat) : Int) = c := Int.toNat_of_nonneg h3'
  have eb : ((b.toNat : Nat) : Int) = b := Int.toNat_of_nonneg h1'
  have := segCut_law1 b.toNat (by omega) l (by simpa using hl) ha c.toNat (by omega)
  rw [ec, eb] at this
  exact this
theorem segmentFinds_pure (xs : List V) (h : wfAs [(false, [.i .u16]), (false, [.l [.s]]), (false, [.i .u8])] xs) : call 6 xs [] = some (vb true, []) := by
  simp only [wfAs, wfA] at h
  obtain ⟨_, _, rfl, ⟨d, rfl, hd⟩, _, _, rfl, ⟨e, rfl, he⟩, _, _, rfl, ⟨n, rfl, hn⟩, rfl⟩ := h
  simp only [wfRow, wfT] at hd he hn
  obtain ⟨_, _, e1, ⟨b, rfl, h1, h2⟩, rfl⟩ := hd
  obtain ⟨_, _, e2, ⟨rows, rfl, hl, hr⟩, rfl⟩ := he
  obtain ⟨_, _, e3, ⟨c, rfl, h3, h4⟩, rfl⟩ := hn
  cases e1; cases e2; cases e3
  obtain ⟨l, rfl, ha⟩ := rows_map encS.of rows hr
  have h1' : 0 ≤ b := Int.le_trans (by decide) h1
  have h2' : b < 65536 := Int.lt_of_le_of_lt h2 (by decide)
  have h3' : 0 ≤ c := Int.le_trans (by decide) h3
  have h4' : c < 256 := Int.lt_of_le_of_lt h4 (by decide)
  have ec : ((c.toNat : Nat) : Int) = c := Int.toNat_of_nonneg h3'
  have eb : ((b.toNat : Nat) : Int) = b := Int.toNat_of_nonneg h1'
  have := segFinds_law1 b.toNat (by omega) l (by simpa using hl) ha c.toNat (by omega)
  rw [ec, eb] at this
  exact this
end Go.Proofs.Ythijgiinafanfaa
