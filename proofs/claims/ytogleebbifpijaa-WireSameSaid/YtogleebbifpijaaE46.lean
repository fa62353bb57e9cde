import Derived.Test.YtogleebbifpijaaE45
set_option linter.unusedSimpArgs false
set_option linter.unusedVariables false
namespace Go.Proofs.Ytogleebbifpijaa
open Go.Vi
set_option linter.unusedSimpArgs false

theorem nd_mono128 {n : Nat} (h : n < 128) : nd n = 1 := nd_small h
theorem sizeR_le {r : Rec} : sizeR r ≤ 82 := by
  unfold sizeR
  split
  · rename_i c
    have hf := (why_fit.1 c).blen
    rw [frameF_len, nd_small (by omega)]; omega
  · omega
theorem sizeR_pos {r : Rec} : 0 < sizeR r ↔ whyF r = 0 := by
  unfold sizeR
  split
  · rename_i c
    have hf := (why_fit.1 c).blen
    rw [frameF_len]
    constructor
    · intro _; exact c
    · intro _; omega
  · rename_i c
    constructor
    · intro h; omega
    · intro h; exact absurd h c
def more (r : Rec) (k : Nat) : Rec := { r with da := r.da ++ List.replicate k 120 }
theorem more_succ (r : Rec) (k : Nat) : ({ more r k with da := (more r k).da ++ [120] } : Rec) = more r (k + 1) := by
  simp only [more, List.append_assoc]
  congr 2
  rw [List.replicate_succ']
theorem more_up (r : Rec) (j : Nat) : List.take 2 (List.map L.d (more r j).enc) ++ L.d (D.s ((more r j).da ++ [120])) :: List.drop 3 (List.map L.d (more r j).enc) = List.map L.d (more r (j + 1)).enc := by
  rw [← more_succ]; rfl
theorem more_fit {r : Rec} {k : Nat} (h : Fit (more r k)) : Fit r := by
  have := h.d
  simp only [more, List.length_append] at this
  exact ⟨h.a0, h.a1, h.t0, h.t1, by omega⟩
theorem more_size (r : Rec) (k : Nat) : (sizeR r = 0 ∨ sizeR (more r k) = 0 ∨ sizeR r + k ≤ sizeR (more r k)) ∧ (0 < sizeR r ∨ sizeR (more r k) = 0) := by
  by_cases c : whyF (more r k) = 0
  · have f2 := why_fit.1 c
    have f1 := more_fit f2
    have c1 := why_fit.2 f1
    have h1 := f1.blen
    have h2 := f2.blen
    have hl1 := body_len r
    have hl2 : (bodyF (more r k)).length = (bodyF r).length + k := by
      rw [hl1, body_len]
      simp only [more, List.length_append, List.length_replicate]; omega
    refine ⟨.inr (.inr ?_), .inl (sizeR_pos.2 c1)⟩
    unfold sizeR
    rw [if_pos c, if_pos c1, frameF_len, frameF_len, nd_small (by omega), nd_small (by omega), hl2]; omega
  · have : sizeR (more r k) = 0 := by
      have := (sizeR_pos (r := more r k))
      rcases Nat.eq_zero_or_pos (sizeR (more r k)) with h | h
      · exact h
      · exact absurd (this.1 h) c
    exact ⟨.inr (.inl this), .inr this⟩
end Go.Proofs.Ytogleebbifpijaa
