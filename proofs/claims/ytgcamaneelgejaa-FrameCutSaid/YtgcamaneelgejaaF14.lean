import Derived.Test.YtgcamaneelgejaaF11
import Derived.Test.YtgcamaneelgejaaF13
set_option linter.unusedSimpArgs false
set_option linter.unusedVariables false
namespace Go.Proofs.Ytgcamaneelgejaa
open Go.Vi

theorem encS.of (r : List D) (h : wfRow [.s] r) : ∃ s : List UInt8, r = encS s ∧ s.length ≤ 9223372036854775807 := by
  simp only [wfRow, wfT] at h
  obtain ⟨_, _, rfl, ⟨a, rfl, h1⟩, rfl⟩ := h
  exact ⟨a, rfl, h1⟩
theorem frameTurned_pure (xs : List V) (h : wfAs [(false, [.s]), (false, [.i .u16]), (false, [.i .u8])] xs) : call 4 xs [] = some (vb true, []) := by
  simp only [wfAs, wfA] at h
  obtain ⟨_, _, rfl, ⟨d, rfl, hd⟩, _, _, rfl, ⟨e, rfl, he⟩, _, _, rfl, ⟨n, rfl, hn⟩, rfl⟩ := h
  simp only [wfRow, wfT] at hd he hn
  obtain ⟨_, _, e1, ⟨b, rfl, hb⟩, rfl⟩ := hd
  obtain ⟨_, _, e2, ⟨a, rfl, h1, h2⟩, rfl⟩ := he
  obtain ⟨_, _, e3, ⟨c, rfl, h3, h4⟩, rfl⟩ := hn
  cases e1; cases e2; cases e3
  have h1' : 0 ≤ a := Int.le_trans (by decide) h1
  have h2' : a < 65536 := Int.lt_of_le_of_lt h2 (by decide)
  have h3' : 0 ≤ c := Int.le_trans (by decide) h3
  have h4' : c < 256 := Int.lt_of_le_of_lt h4 (by decide)
  have ea : ((a.toNat : Nat) : Int) = a := Int.toNat_of_nonneg h1'
  have ec : (((UInt8.ofNat c.toNat).toNat : Nat) : Int) = c := by
    rw [UInt8.toNat_ofNat', Nat.mod_eq_of_lt (by omega)]; omega
  have := frameTurned_law1 b a.toNat (UInt8.ofNat c.toNat) (by omega) hb
  rw [ea, ec] at this
  exact this
theorem frameBack_pure (xs : List V) (h : wfAs [(false, [.l [.s]])] xs) : call 6 xs [] = some (vb true, []) := by
  simp only [wfAs, wfA] at h
  obtain ⟨_, _, rfl, ⟨d, rfl, hd⟩, rfl⟩ := h
  simp only [wfRow, wfT] at hd
  obtain ⟨_, _, e1, ⟨rows, rfl, hl, hr⟩, rfl⟩ := hd
  cases e1
  obtain ⟨l, rfl, ha⟩ := rows_map encS.of rows hr
  exact frameBack_law1 l (by simpa using hl) ha
theorem frameCut_pure (xs : List V) (h : wfAs [(false, [.l [.s]]), (false, [.i .u16])] xs) : call 7 xs [] = some (vb true, []) := by
  simp only [wfAs, wfA] at h
  obtain ⟨_, _, rfl, ⟨d, rfl, hd⟩, _, _, rfl, ⟨e, rfl, he⟩, rfl⟩ := h
  simp only [wfRow, wfT] at hd he
  obtain ⟨_, _, e1, ⟨rows, rfl, hl, hr⟩, rfl⟩ := hd
  obtain ⟨_, _, e2, ⟨a, rfl, h1, h2⟩, rfl⟩ := he
  cases e1; cases e2
  obtain ⟨l, rfl, ha⟩ := rows_map encS.of rows hr
  have h1' : 0 ≤ a := Int.le_trans (by decide) h1
  have h2' : a < 65536 := Int.lt_of_le_of_lt h2 (by decide)
  have ea : ((a.toNat : Nat) : Int) = a := Int.toNat_of_nonneg h1'
  have := frameCut_law1 l (by simpa using hl) ha a.toNat (by omega)
  rw [ea] at this
  exact this
end Go.Proofs.Ytgcamaneelgejaa
