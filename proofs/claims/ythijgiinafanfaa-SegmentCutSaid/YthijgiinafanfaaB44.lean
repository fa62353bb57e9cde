import Derived.Test.YthijgiinafanfaaB43
set_option linter.unusedSimpArgs false
set_option linter.unusedVariables false
namespace Go.Proofs.Ythijgiinafanfaa
open Go.Vi
set_option linter.unusedSimpArgs false

set_option maxRecDepth 8000 in
theorem refGet_spec (s : List UInt8) (hs : s.length ≤ 1000000) : call 29 [vs s] [] = some (recV (getR s), []) := by
  apply enterS s29 rfl
  have g1 := refRead_spec s 0 (by decide) (by omega)
  simp only [List.drop_zero, Int.natCast_zero] at g1
  unfold getR recV
  cases h : rdF s 0 0 with
  | none =>
    rw [h] at g1
    (simp (disch := first | decide | omega | (intros; exact Eq.trans rfl rfl) | (simp only [puri]; done)) only [a29, g1, rdV, vis, visL, visB, fillR, rowsAt, toDs, toD, ↓ops_cons, ↓ops_consz, fzTs, fzLs, rg, rd, o, oz, kc, kb, ks, kx, on, og, od, ogd, A.run, evI, evOpt, evs, evP, argF, V.cs, binD, fzV, fzL, fzVs, dataVs, dataLs, V.data, L.data, unD, fillL, List.take_succ_cons, List.take_zero, List.drop_succ_cons, List.drop_zero, List.cons_append, ne_eq, Nat.reduceLT, Nat.reduceBEq, ↓reduceIte, Nat.reduceEqDiff, Nat.reduceAdd, Nat.reduceMul, Nat.reduceSub, Int.reduceToNat, Nat.reduceLeDiff, Int.reduceNeg, Int.reduceEq, Int.reduceLT, Int.reduceLE, Int.reduceBEq, Int.reduceBNe, Int.reduceToNat, dis])
    rfl
  | some q =>
    obtain ⟨n, k⟩ := q
    rw [h] at g1
    simp only [rdV, Nat.zero_add] at g1
    obtain ⟨b1, b2, b3, b4⟩ := rdF_enc0 h
    have hn := rd_lt h
    have g2 := refRead_spec s k (by omega) (by omega)
    dsimp only
    cases h2 : rdF (s.drop k) 0 0 with
    | none =>
      rw [h2] at g2
      simp only [rdV] at g2
      (simp (disch := first | decide | omega | (intros; exact Eq.trans rfl rfl) | (simp only [puri]; done)) only [a29, g1, g2, vis, visL, visB, fillR, rowsAt, toDs, toD, ↓ops_cons, ↓ops_consz, fzTs, fzLs, rg, rd, o, oz, kc, kb, ks, kx, on, og, od, ogd, A.run, evI, evOpt, evs, evP, argF, V.cs, binD, fzV, fzL, fzVs, dataVs, dataLs, V.data, L.data, unD, fillL, List.take_succ_cons, List.take_zero, List.drop_succ_cons, List.drop_zero, List.cons_append, ne_eq, Nat.reduceLT, Nat.reduceBEq, ↓reduceIte, Nat.reduceEqDiff, Nat.reduceAdd, Nat.reduceMul, Nat.reduceSub, Int.reduceToNat, Nat.reduceLeDiff, Int.reduceNeg, Int.reduceEq, Int.reduceLT, Int.reduceLE, Int.reduceBEq, Int.reduceBNe, Int.reduceToNat, dis])
      rfl
    | some q2 =>
      obtain ⟨m, j⟩ := q2
      rw [h2] at g2
      simp only [rdV] at g2
      obtain ⟨d1, d2, d3, d4⟩ := rdF_enc0 h2
      have hm := rd_lt h2
      have d2' : k + j ≤ s.length := by rw [List.length_drop] at d2; omega
      have ck : call 30 [.agg [.d (.i .i64 n), .d (.i .i64 m), .d (.s (s.drop (k + j)))]] [] = some (vi (whyF ⟨n, m, s.drop (k + j)⟩), []) := why_spec ⟨n, m, s.drop (k + j)⟩ ⟨⟨by simp only []; omega, by simp only []; omega⟩, ⟨by simp only []; omega, by simp only []; omega⟩, by simp; omega⟩
      dsimp only
      by_cases c : whyF ⟨n, m, s.drop (k + j)⟩ = 0
      · rw [c] at ck
        rw [if_pos c]
        (simp (disch := first | decide | omega | (intros; exact Eq.trans rfl rfl) | (simp only [puri]; done)) only [a29, g1, g2, ck, vis, visL, visB, fillR, rowsAt, toDs, toD, ↓ops_cons, ↓ops_consz, fzTs, fzLs, rg, rd, o, oz, kc, kb, ks, kx, on, og, od, ogd, A.run, evI, evOpt, evs, evP, argF, V.cs, binD, fzV, fzL, fzVs, dataVs, dataLs, V.data, L.data, unD, fillL, List.take_succ_cons, List.take_zero, List.drop_succ_cons, List.drop_zero, List.cons_append, ne_eq, Nat.reduceLT, Nat.reduceBEq, ↓reduceIte, Nat.reduceEqDiff, Nat.reduceAdd, Nat.reduceMul, Nat.reduceSub, Int.reduceToNat, Nat.reduceLeDiff, Int.reduceNeg, Int.reduceEq, Int.reduceLT, Int.reduceLE, Int.reduceBEq, Int.reduceBNe, Int.reduceToNat, dis])
        rfl
      · rw [if_neg c]
        (simp (disch := first | decide | omega | (intros; exact Eq.trans rfl rfl) | (simp only [puri]; done)) only [a29, g1, g2, ck, c, vis, visL, visB, fillR, rowsAt, toDs, toD, ↓ops_cons, ↓ops_consz, fzTs, fzLs, rg, rd, o, oz, kc, kb, ks, kx, on, og, od, ogd, A.run, evI, evOpt, evs, evP, argF, V.cs, binD, fzV, fzL, fzVs, dataVs, dataLs, V.data, L.data, unD, fillL, List.take_succ_cons, List.take_zero, List.drop_succ_cons, List.drop_zero, List.cons_append, ne_eq, Nat.reduceLT, Nat.reduceBEq, ↓reduceIte, Nat.reduceEqDiff, Nat.reduceAdd, Nat.reduceMul, Nat.reduceSub, Int.reduceToNat, Nat.reduceLeDiff, Int.reduceNeg, Int.reduceEq, Int.reduceLT, Int.reduceLE, Int.reduceBEq, Int.reduceBNe, Int.reduceToNat, dis])
        rfl
theorem getR_err {s : List UInt8} (h : (getR s).2 ≠ 0) : (getR s).1 = ⟨0, 0, []⟩ := by
  unfold getR at h ⊢
  split
  · rfl
  · rename_i n k e1
    rw [e1] at h
    dsimp only at h ⊢
    split
    · rfl
    · rename_i m j e2
      rw [e2] at h
      dsimp only at h ⊢
      split
      · rename_i c
        rw [if_pos c] at h
        exact absurd rfl h
      · rfl
theorem getR_ok {s : List UInt8} (hs : s.length ≤ 9223372036854775807) : (getR s).1.ok ∧ ((getR s).2 = 0 → whyF (getR s).1 = 0 ∧ bodyF (getR s).1 = s) := by
  have z : Rec.ok ⟨0, 0, []⟩ := ⟨⟨by decide, by decide⟩, ⟨by decide, by decide⟩, by decide⟩
  unfold getR
  split
  · exact ⟨z, fun h => by cases h⟩
  · rename_i n k e1
    try dsimp only
    split
    · exact ⟨z, fun h => by cases h⟩
    · rename_i m j e2
      try dsimp only
      have hn := rd_lt e1
      have hm := rd_lt e2
      obtain ⟨b1, b2, b3, b4⟩ := rdF_enc0 e1
      obtain ⟨d1, d2, d3, d4⟩ := rdF_enc0 e2
      split
      · rename_i c
        refine ⟨⟨⟨by simp only []; omega, by simp only []; omega⟩, ⟨by simp only []; omega, by simp only []; omega⟩, by simp; omega⟩, fun _ => ⟨c, ?_⟩⟩
        simp only [bodyF, Int.toNat_natCast]
        rw [← b4, ← d4, List.append_assoc, ← List.drop_drop, List.take_append_drop, List.take_append_drop]
      · exact ⟨z, fun h => absurd h (by assumption)⟩
theorem frame_drop (b : List UInt8) (n : Nat) (h : n = nd b.length + 4) : (frameF b).drop n = b := by
  subst h
  unfold frameF
  have e : (enc128 b.length ++ four (crcOn 0#32 (enc128 b.length ++ b))).length = nd b.length + 4 := by rw [List.length_append, four_len]; rfl
  rw [← e, List.drop_left]
end Go.Proofs.Ythijgiinafanfaa
