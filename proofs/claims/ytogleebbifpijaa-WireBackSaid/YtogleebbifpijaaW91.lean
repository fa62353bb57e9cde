import Derived.Test.YtogleebbifpijaaW90
set_option linter.unusedSimpArgs false
set_option linter.unusedVariables false
namespace Go.Proofs.Ytogleebbifpijaa
open Go.Vi

theorem Msg.of (d : List D) (h : wfRow [.i .i64, .i .i64, .i .i64, .i .i64, .i .i64, .i .i64, .i .i64, .i .i64, .i .i64, .i .i64, .i .i64, .i .i64, .i .u32, .s, .l [.i .i64, .i .i64, .s]] d) : ∃ m : Msg, d = msgD m ∧ m.ok := by
  simp only [wfRow, wfT] at h
  obtain ⟨_, _, rfl, ⟨k, rfl, a0, b0⟩, _, _, rfl, ⟨fr, rfl, a1, b1⟩, _, _, rfl, ⟨to, rfl, a2, b2⟩, _, _, rfl, ⟨inc, rfl, a3, b3⟩, _, _, rfl, ⟨peer, rfl, a4, b4⟩, _, _, rfl, ⟨seq, rfl, a5, b5⟩, _, _, rfl, ⟨at_, rfl, a6, b6⟩, _, _, rfl, ⟨win, rfl, a7, b7⟩, _, _, rfl, ⟨high, rfl, a8, b8⟩, _, _, rfl, ⟨want, rfl, a9, b9⟩, _, _, rfl, ⟨idx, rfl, a10, b10⟩, _, _, rfl, ⟨size, rfl, a11, b11⟩, _, _, rfl, ⟨su, rfl, c1, c2⟩, _, _, rfl, ⟨da, rfl, hd⟩, _, _, rfl, ⟨rows, rfl, hl, hr⟩, rfl⟩ := h
  obtain ⟨l, rfl, ha⟩ := rows_map Rec.of rows hr
  exact ⟨⟨k, fr, to, inc, peer, seq, at_, win, high, want, idx, size, su, da, l⟩, rfl, ⟨⟨Int.le_trans (by decide) a0, Int.lt_of_le_of_lt b0 (by decide)⟩, ⟨Int.le_trans (by decide) a1, Int.lt_of_le_of_lt b1 (by decide)⟩, ⟨Int.le_trans (by decide) a2, Int.lt_of_le_of_lt b2 (by decide)⟩, ⟨Int.le_trans (by decide) a3, Int.lt_of_le_of_lt b3 (by decide)⟩, ⟨Int.le_trans (by decide) a4, Int.lt_of_le_of_lt b4 (by decide)⟩, ⟨Int.le_trans (by decide) a5, Int.lt_of_le_of_lt b5 (by decide)⟩, ⟨Int.le_trans (by decide) a6, Int.lt_of_le_of_lt b6 (by decide)⟩, ⟨Int.le_trans (by decide) a7, Int.lt_of_le_of_lt b7 (by decide)⟩, ⟨Int.le_trans (by decide) a8, Int.lt_of_le_of_lt b8 (by decide)⟩, ⟨Int.le_trans (by decide) a9, Int.lt_of_le_of_lt b9 (by decide)⟩, ⟨Int.le_trans (by decide) a10, Int.lt_of_le_of_lt b10 (by decide)⟩, ⟨Int.le_trans (by decide) a11, Int.lt_of_le_of_lt b11 (by decide)⟩, ⟨Int.le_trans (by decide) c1, Int.lt_of_le_of_lt c2 (by decide)⟩, hd, by simpa using hl, ha⟩⟩
theorem msgL_eq (m : Msg) : (msgD m).map L.d = msgL m := rfl
theorem wireTells_pure (xs : List V) (h : wfAs [(true, [.i .i64, .i .i64, .i .i64, .i .i64, .i .i64, .i .i64, .i .i64, .i .i64, .i .i64, .i .i64, .i .i64, .i .i64, .i .u32, .s, .l [.i .i64, .i .i64, .s]]), (false, [.s])] xs) : call 3 xs [] = some (vb true, []) := by
  simp only [wfAs, wfA] at h
  obtain ⟨_, _, rfl, ⟨d, rfl, hd⟩, _, _, rfl, ⟨e, rfl, he⟩, rfl⟩ := h
  obtain ⟨m, rfl, hm⟩ := Msg.of d hd
  simp only [wfRow, wfT] at he
  obtain ⟨_, _, e1, ⟨b, rfl, hb⟩, rfl⟩ := he
  cases e1
  exact wireTells_law1 m hm b hb
theorem wireFramed_pure (xs : List V) (h : wfAs [(false, [.s]), (false, [.s])] xs) : call 4 xs [] = some (vb true, []) := by
  simp only [wfAs, wfA] at h
  obtain ⟨_, _, rfl, ⟨d, rfl, hd⟩, _, _, rfl, ⟨e, rfl, he⟩, rfl⟩ := h
  simp only [wfRow, wfT] at hd he
  obtain ⟨_, _, e1, ⟨b, rfl, hb⟩, rfl⟩ := hd
  obtain ⟨_, _, e2, ⟨c, rfl, hc⟩, rfl⟩ := he
  cases e1; cases e2
  exact wireFramed_law1 b c hb hc
end Go.Proofs.Ytogleebbifpijaa
