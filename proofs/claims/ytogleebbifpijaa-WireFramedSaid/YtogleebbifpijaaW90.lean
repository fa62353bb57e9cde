import Derived.Test.YtogleebbifpijaaW89
set_option linter.unusedSimpArgs false
set_option linter.unusedVariables false
namespace Go.Proofs.Ytogleebbifpijaa
open Go.Vi
set_option linter.unusedSimpArgs false

set_option maxRecDepth 8000 in
set_option maxHeartbeats 4000000 in
theorem wireFramed_law1 (b d : List UInt8) (hb : b.length ≤ 9223372036854775807) (hd : d.length ≤ 9223372036854775807) : call 4 [vs b, vs d] [] = some (vb true, []) := by
  apply enterS s4 rfl
  have haw := wAwake_spec
  have hp := refPutFrame_spec b hb
  unfold putV at hp
  by_cases c : 1 ≤ b.length ∧ b.length ≤ 65536
  · rw [if_pos c] at hp
    by_cases c2 : b.length ≤ 500
    · by_cases c3 : d.length ≤ 100
      · have hfl := frameF_len b
        have h9 := nd_le9 (n := b.length) (by omega)
        have p3 := get16_spec (frameF b ++ d) (by rw [List.length_append]; omega)
        have p4 := refGet16_spec (frameF b ++ d) (by rw [List.length_append]; omega)
        have p7 := refSame16_spec (getW (frameF b ++ d)).1 (getW (frameF b ++ d)).1 (by have := getW_recs (frameF b ++ d) (by rw [List.length_append]; omega); omega)
        rw [decide_eq_true rfl] at p7
        have hf : d ≠ [] → (getW (frameF b ++ d)).2 = 3 := by
          intro hne
          have hx := nextF_frame [] b d c.1 c.2
          simp only [List.nil_append, List.length_nil, Nat.zero_add] at hx
          unfold getW
          rw [hx]
          simp only [↓reduceIte]
          have e : decide ((frameF b).length ≠ (frameF b ++ d).length) = true := by
            have : 0 < d.length := List.length_pos_iff.2 hne
            simp; omega
          rw [e, fin_bad]
        obtain ⟨⟨g, ge⟩, hg⟩ : ∃ x, getW (frameF b ++ d) = x := ⟨_, rfl⟩
        rw [hg] at p3 p4 p7 hf
        simp only [getV] at p3 p4 p7 hf
        simp only [msgL] at p3 p4 p7
        have hfl2 : (frameF b).length ≤ 1000 := by omega
        generalize frameF b = w at *
        by_cases z : d = []
        · subst z
          have hz : (([] : List UInt8) == []) = true := by decide
          rw [List.append_nil] at p3 p4
          (simp (disch := first | decide | omega | (intros; exact Eq.trans rfl rfl) | (simp only [puri]; done)) only [a4, hp, haw, c2, List.append_nil, p3, p4, p7, hz, vis, visL, visB, fillR, rowsAt, toDs, toD, ↓ops_cons, ↓ops_consz, fzTs, fzLs, rg, rd, o, oz, kc, kb, ks, kx, on, og, od, ogd, A.run, evI, evOpt, evs, evP, argF, V.cs, binD, fzV, fzL, fzVs, dataVs, dataLs, V.data, L.data, unD, fillL, List.take_succ_cons, List.take_zero, List.drop_succ_cons, List.drop_zero, List.cons_append, ne_eq, Nat.reduceLT, Nat.reduceBEq, ↓reduceIte, Nat.reduceEqDiff, Nat.reduceAdd, Nat.reduceMul, Nat.reduceSub, Int.reduceToNat, Nat.reduceLeDiff, Int.reduceNeg, Int.reduceEq, Int.reduceLT, Int.reduceLE, Int.reduceBEq, Int.reduceBNe, Int.reduceToNat, dis])
          try simp [trim]
        · have hge := hf z
          subst hge
          have hz : (d == []) = false := by rw [beq_eq_false_iff_ne]; exact z
          (simp (disch := first | decide | omega | (intros; exact Eq.trans rfl rfl) | (simp only [puri]; done)) only [a4, hp, haw, c2, c3, p3, p4, p7, hz, vis, visL, visB, fillR, rowsAt, toDs, toD, ↓ops_cons, ↓ops_consz, fzTs, fzLs, rg, rd, o, oz, kc, kb, ks, kx, on, og, od, ogd, A.run, evI, evOpt, evs, evP, argF, V.cs, binD, fzV, fzL, fzVs, dataVs, dataLs, V.data, L.data, unD, fillL, List.take_succ_cons, List.take_zero, List.drop_succ_cons, List.drop_zero, List.cons_append, ne_eq, Nat.reduceLT, Nat.reduceBEq, ↓reduceIte, Nat.reduceEqDiff, Nat.reduceAdd, Nat.reduceMul, Nat.reduceSub, Int.reduceToNat, Nat.reduceLeDiff, Int.reduceNeg, Int.reduceEq, Int.reduceLT, Int.reduceLE, Int.reduceBEq, Int.reduceBNe, Int.reduceToNat, dis])
          try simp [trim]
      · (simp (disch := first | decide | omega | (intros; exact Eq.trans rfl rfl) | (simp only [puri]; done)) only [a4, hp, haw, c2, c3, vis, visL, visB, fillR, rowsAt, toDs, toD, ↓ops_cons, ↓ops_consz, fzTs, fzLs, rg, rd, o, oz, kc, kb, ks, kx, on, og, od, ogd, A.run, evI, evOpt, evs, evP, argF, V.cs, binD, fzV, fzL, fzVs, dataVs, dataLs, V.data, L.data, unD, fillL, List.take_succ_cons, List.take_zero, List.drop_succ_cons, List.drop_zero, List.cons_append, ne_eq, Nat.reduceLT, Nat.reduceBEq, ↓reduceIte, Nat.reduceEqDiff, Nat.reduceAdd, Nat.reduceMul, Nat.reduceSub, Int.reduceToNat, Nat.reduceLeDiff, Int.reduceNeg, Int.reduceEq, Int.reduceLT, Int.reduceLE, Int.reduceBEq, Int.reduceBNe, Int.reduceToNat, dis])
        try simp [trim]
    · (simp (disch := first | decide | omega | (intros; exact Eq.trans rfl rfl) | (simp only [puri]; done)) only [a4, hp, haw, c2, vis, visL, visB, fillR, rowsAt, toDs, toD, ↓ops_cons, ↓ops_consz, fzTs, fzLs, rg, rd, o, oz, kc, kb, ks, kx, on, og, od, ogd, A.run, evI, evOpt, evs, evP, argF, V.cs, binD, fzV, fzL, fzVs, dataVs, dataLs, V.data, L.data, unD, fillL, List.take_succ_cons, List.take_zero, List.drop_succ_cons, List.drop_zero, List.cons_append, ne_eq, Nat.reduceLT, Nat.reduceBEq, ↓reduceIte, Nat.reduceEqDiff, Nat.reduceAdd, Nat.reduceMul, Nat.reduceSub, Int.reduceToNat, Nat.reduceLeDiff, Int.reduceNeg, Int.reduceEq, Int.reduceLT, Int.reduceLE, Int.reduceBEq, Int.reduceBNe, Int.reduceToNat, dis])
      try simp [trim]
  · rw [if_neg c] at hp
    (simp (disch := first | decide | omega | (intros; exact Eq.trans rfl rfl) | (simp only [puri]; done)) only [a4, hp, haw, vis, visL, visB, fillR, rowsAt, toDs, toD, ↓ops_cons, ↓ops_consz, fzTs, fzLs, rg, rd, o, oz, kc, kb, ks, kx, on, og, od, ogd, A.run, evI, evOpt, evs, evP, argF, V.cs, binD, fzV, fzL, fzVs, dataVs, dataLs, V.data, L.data, unD, fillL, List.take_succ_cons, List.take_zero, List.drop_succ_cons, List.drop_zero, List.cons_append, ne_eq, Nat.reduceLT, Nat.reduceBEq, ↓reduceIte, Nat.reduceEqDiff, Nat.reduceAdd, Nat.reduceMul, Nat.reduceSub, Int.reduceToNat, Nat.reduceLeDiff, Int.reduceNeg, Int.reduceEq, Int.reduceLT, Int.reduceLE, Int.reduceBEq, Int.reduceBNe, Int.reduceToNat, dis])
    try simp [trim]
end Go.Proofs.Ytogleebbifpijaa
