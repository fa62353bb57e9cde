import Derived.Test.YtogleebbifpijaaW84
set_option linter.unusedSimpArgs false
set_option linter.unusedVariables false
namespace Go.Proofs.Ytogleebbifpijaa
open Go.Vi
set_option linter.unusedSimpArgs false

theorem sq_bad (b : List UInt8) : ∀ i, sq (b, true) i = (b, true)
  | 0 => rfl
  | i + 1 => by show (num (sq (b, true) i)).2 = _; rw [sq_bad b i, num_bad]
theorem vq_bad (b : List UInt8) (i : Nat) : vq (b, true) i = 0 := by unfold vq; rw [sq_bad, num_bad]
theorem fin_bad (b : List UInt8) : finM (parseW (b, true)) = (zmsg, 3) := by
  unfold parseW
  rw [vq_bad, if_neg (by decide), if_neg (by decide), if_neg (by decide), sq_bad]
  simp [finM]
set_option maxRecDepth 8000 in
set_option maxHeartbeats 4000000 in
theorem refGet16_spec (s : List UInt8) (hs : s.length ≤ 100000) : call 12 [vs s] [] = some (getV (getW s), []) := by
  apply enterS s12 rfl
  have hn : call 29 [vs s, vi 0] [] = some (nextV (nextF s 0), []) := refNext_spec s 0 (by decide) (by omega)
  have htl := nextF_tlen s 0
  obtain ⟨W, hW⟩ : ∃ W : V × Hp, W = (getV (getW s), []) := ⟨_, rfl⟩
  rw [← hW]
  unfold getW at hW
  obtain ⟨⟨b, n, e⟩, hx⟩ : ∃ x, nextF s 0 = x := ⟨_, rfl⟩
  rw [hx] at hn htl hW
  simp only [nextV] at hn htl hW
  by_cases c : e = 0
  · subst c
    rw [if_pos rfl] at hW
    obtain ⟨m, ok, hb, hml, hbo⟩ := body16_spec b (by omega)
    have hr := refRight16_spec m hml
    simp only [msgL] at hb hr
    unfold bodyOk at hbo
    by_cases c2 : n = s.length
    · have e1 : decide (n ≠ s.length) = false := by simp [c2]
      have c3 : (n : Int) = s.length := by omega
      rw [e1, hbo] at hW
      cases ok with
      | false =>
        rw [if_neg (by simp)] at hW
        (simp (disch := first | decide | omega | (intros; exact Eq.trans rfl rfl) | (simp only [puri]; done)) only [a12, hn, hb, c3, vis, visL, visB, fillR, rowsAt, toDs, toD, ↓ops_cons, ↓ops_consz, fzTs, fzLs, rg, rd, o, oz, kc, kb, ks, kx, on, og, od, ogd, A.run, evI, evOpt, evs, evP, argF, V.cs, binD, fzV, fzL, fzVs, dataVs, dataLs, V.data, L.data, unD, fillL, List.take_succ_cons, List.take_zero, List.drop_succ_cons, List.drop_zero, List.cons_append, ne_eq, Nat.reduceLT, Nat.reduceBEq, ↓reduceIte, Nat.reduceEqDiff, Nat.reduceAdd, Nat.reduceMul, Nat.reduceSub, Int.reduceToNat, Nat.reduceLeDiff, Int.reduceNeg, Int.reduceEq, Int.reduceLT, Int.reduceLE, Int.reduceBEq, Int.reduceBNe, Int.reduceToNat, dis])
        rw [hW]
        try simp [trim, getV, msgL, zmsg]
      | true =>
        cases hy : rightM m with
        | false =>
          rw [hy] at hr hW
          rw [if_neg (by simp)] at hW
          (simp (disch := first | decide | omega | (intros; exact Eq.trans rfl rfl) | (simp only [puri]; done)) only [a12, hn, hb, c3, hr, vis, visL, visB, fillR, rowsAt, toDs, toD, ↓ops_cons, ↓ops_consz, fzTs, fzLs, rg, rd, o, oz, kc, kb, ks, kx, on, og, od, ogd, A.run, evI, evOpt, evs, evP, argF, V.cs, binD, fzV, fzL, fzVs, dataVs, dataLs, V.data, L.data, unD, fillL, List.take_succ_cons, List.take_zero, List.drop_succ_cons, List.drop_zero, List.cons_append, ne_eq, Nat.reduceLT, Nat.reduceBEq, ↓reduceIte, Nat.reduceEqDiff, Nat.reduceAdd, Nat.reduceMul, Nat.reduceSub, Int.reduceToNat, Nat.reduceLeDiff, Int.reduceNeg, Int.reduceEq, Int.reduceLT, Int.reduceLE, Int.reduceBEq, Int.reduceBNe, Int.reduceToNat, dis])
          rw [hW]
          try simp [trim, getV, msgL, zmsg]
        | true =>
          rw [hy] at hr hW
          rw [if_pos ⟨rfl, rfl⟩] at hW
          (simp (disch := first | decide | omega | (intros; exact Eq.trans rfl rfl) | (simp only [puri]; done)) only [a12, hn, hb, c3, hr, vis, visL, visB, fillR, rowsAt, toDs, toD, ↓ops_cons, ↓ops_consz, fzTs, fzLs, rg, rd, o, oz, kc, kb, ks, kx, on, og, od, ogd, A.run, evI, evOpt, evs, evP, argF, V.cs, binD, fzV, fzL, fzVs, dataVs, dataLs, V.data, L.data, unD, fillL, List.take_succ_cons, List.take_zero, List.drop_succ_cons, List.drop_zero, List.cons_append, ne_eq, Nat.reduceLT, Nat.reduceBEq, ↓reduceIte, Nat.reduceEqDiff, Nat.reduceAdd, Nat.reduceMul, Nat.reduceSub, Int.reduceToNat, Nat.reduceLeDiff, Int.reduceNeg, Int.reduceEq, Int.reduceLT, Int.reduceLE, Int.reduceBEq, Int.reduceBNe, Int.reduceToNat, dis])
          rw [hW]
          try simp [trim, getV, msgL]
    · have e1 : decide (n ≠ s.length) = true := by simp [c2]
      have c3 : ¬ (n : Int) = s.length := by omega
      rw [e1, fin_bad] at hW
      cases ok with
      | false =>
        (simp (disch := first | decide | omega | (intros; exact Eq.trans rfl rfl) | (simp only [puri]; done)) only [a12, hn, hb, c3, vis, visL, visB, fillR, rowsAt, toDs, toD, ↓ops_cons, ↓ops_consz, fzTs, fzLs, rg, rd, o, oz, kc, kb, ks, kx, on, og, od, ogd, A.run, evI, evOpt, evs, evP, argF, V.cs, binD, fzV, fzL, fzVs, dataVs, dataLs, V.data, L.data, unD, fillL, List.take_succ_cons, List.take_zero, List.drop_succ_cons, List.drop_zero, List.cons_append, ne_eq, Nat.reduceLT, Nat.reduceBEq, ↓reduceIte, Nat.reduceEqDiff, Nat.reduceAdd, Nat.reduceMul, Nat.reduceSub, Int.reduceToNat, Nat.reduceLeDiff, Int.reduceNeg, Int.reduceEq, Int.reduceLT, Int.reduceLE, Int.reduceBEq, Int.reduceBNe, Int.reduceToNat, dis])
        rw [hW]
        try simp [trim, getV, msgL, zmsg]
      | true =>
        (simp (disch := first | decide | omega | (intros; exact Eq.trans rfl rfl) | (simp only [puri]; done)) only [a12, hn, hb, c3, vis, visL, visB, fillR, rowsAt, toDs, toD, ↓ops_cons, ↓ops_consz, fzTs, fzLs, rg, rd, o, oz, kc, kb, ks, kx, on, og, od, ogd, A.run, evI, evOpt, evs, evP, argF, V.cs, binD, fzV, fzL, fzVs, dataVs, dataLs, V.data, L.data, unD, fillL, List.take_succ_cons, List.take_zero, List.drop_succ_cons, List.drop_zero, List.cons_append, ne_eq, Nat.reduceLT, Nat.reduceBEq, ↓reduceIte, Nat.reduceEqDiff, Nat.reduceAdd, Nat.reduceMul, Nat.reduceSub, Int.reduceToNat, Nat.reduceLeDiff, Int.reduceNeg, Int.reduceEq, Int.reduceLT, Int.reduceLE, Int.reduceBEq, Int.reduceBNe, Int.reduceToNat, dis])
        rw [hW]
        try simp [trim, getV, msgL, zmsg]
  · rw [if_neg c] at hW
    (simp (disch := first | decide | omega | (intros; exact Eq.trans rfl rfl) | (simp only [puri]; done)) only [a12, hn, c, vis, visL, visB, fillR, rowsAt, toDs, toD, ↓ops_cons, ↓ops_consz, fzTs, fzLs, rg, rd, o, oz, kc, kb, ks, kx, on, og, od, ogd, A.run, evI, evOpt, evs, evP, argF, V.cs, binD, fzV, fzL, fzVs, dataVs, dataLs, V.data, L.data, unD, fillL, List.take_succ_cons, List.take_zero, List.drop_succ_cons, List.drop_zero, List.cons_append, ne_eq, Nat.reduceLT, Nat.reduceBEq, ↓reduceIte, Nat.reduceEqDiff, Nat.reduceAdd, Nat.reduceMul, Nat.reduceSub, Int.reduceToNat, Nat.reduceLeDiff, Int.reduceNeg, Int.reduceEq, Int.reduceLT, Int.reduceLE, Int.reduceBEq, Int.reduceBNe, Int.reduceToNat, dis])
    rw [hW]
    try simp [trim, getV, msgL, zmsg]
end Go.Proofs.Ytogleebbifpijaa
