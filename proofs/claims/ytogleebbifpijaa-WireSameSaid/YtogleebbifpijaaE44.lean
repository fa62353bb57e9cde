import Derived.Test.YtogleebbifpijaaE43
set_option linter.unusedSimpArgs false
set_option linter.unusedVariables false
namespace Go.Proofs.Ytogleebbifpijaa
open Go.Vi
set_option linter.unusedSimpArgs false

theorem getR_err {s : List UInt8} (h : (getR s).2 ≠ 0) : (getR s).1 = ⟨0, 0, []⟩ := by
  unfold getR at h ⊢
  split
  · rfl
  · rename_i n k e1
    rw [e1] at h
    dsimp only at h ⊢
    split
    · rfl
    · rename_i m j e2
      rw [e2] at h
      dsimp only at h ⊢
      split
      · rename_i c
        rw [if_pos c] at h
        exact absurd rfl h
      · rfl
theorem getR_ok {s : List UInt8} (hs : s.length ≤ 9223372036854775807) : (getR s).1.ok ∧ ((getR s).2 = 0 → whyF (getR s).1 = 0 ∧ bodyF (getR s).1 = s) := by
  have z : Rec.ok ⟨0, 0, []⟩ := ⟨⟨by decide, by decide⟩, ⟨by decide, by decide⟩, by decide⟩
  unfold getR
  split
  · exact ⟨z, fun h => by cases h⟩
  · rename_i n k e1
    try dsimp only
    split
    · exact ⟨z, fun h => by cases h⟩
    · rename_i m j e2
      try dsimp only
      have hn := rd_lt e1
      have hm := rd_lt e2
      obtain ⟨b1, b2, b3, b4⟩ := rdF_enc0 e1
      obtain ⟨d1, d2, d3, d4⟩ := rdF_enc0 e2
      split
      · rename_i c
        refine ⟨⟨⟨by simp only []; omega, by simp only []; omega⟩, ⟨by simp only []; omega, by simp only []; omega⟩, by simp; omega⟩, fun _ => ⟨c, ?_⟩⟩
        simp only [bodyF, Int.toNat_natCast]
        rw [← b4, ← d4, List.append_assoc, ← List.drop_drop, List.take_append_drop, List.take_append_drop]
      · exact ⟨z, fun h => absurd h (by assumption)⟩
theorem frame_drop (b : List UInt8) (n : Nat) (h : n = nd b.length + 4) : (frameF b).drop n = b := by
  subst h
  unfold frameF
  have e : (enc128 b.length ++ four (crcOn 0#32 (enc128 b.length ++ b))).length = nd b.length + 4 := by rw [List.length_append, four_len]; rfl
  rw [← e, List.drop_left]
end Go.Proofs.Ytogleebbifpijaa
