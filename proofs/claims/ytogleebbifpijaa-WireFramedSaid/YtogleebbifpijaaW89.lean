import Derived.Test.YtogleebbifpijaaW88
set_option linter.unusedSimpArgs false
set_option linter.unusedVariables false
namespace Go.Proofs.Ytogleebbifpijaa
open Go.Vi
set_option linter.unusedSimpArgs false

theorem parseW_recs (t : RdS) (h : t.1.length ≤ 1000000) : (parseW t).1.recs.length ≤ 64 := by
  unfold parseW
  split
  · simp [fetchM, msg0]
  · split
    · have h7 := sq_len t 7
      have h8 := num_len (sq t 7)
      exact (recsR_all _ _ (by omega)).1
    · split
      · simp [chunkM, msg0]
      · simp [msg0]
theorem getW_recs (s : List UInt8) (hs : s.length ≤ 100000) : (getW s).1.recs.length ≤ 64 := by
  have htl := nextF_tlen s 0
  unfold getW
  obtain ⟨⟨b, n, e⟩, hx⟩ : ∃ x, nextF s 0 = x := ⟨_, rfl⟩
  rw [hx] at htl ⊢
  simp only at htl ⊢
  split
  · unfold finM
    split
    · exact parseW_recs _ (by simp only []; omega)
    · simp [zmsg]
  · simp [zmsg]
theorem putM_tup (m : Msg) : ∃ a e, putM m = .tup [(false, [.d (.s a)]), (false, [.d (.i .i64 e)])] := by
  unfold putM putV
  split
  · split
    · exact ⟨_, _, rfl⟩
    · exact ⟨_, _, rfl⟩
  · exact ⟨_, _, rfl⟩
set_option maxRecDepth 8000 in
set_option maxHeartbeats 4000000 in
theorem wireTells_law1 (m : Msg) (hm : m.ok) (s : List UInt8) (hs : s.length ≤ 9223372036854775807) : call 3 [.agg (msgL m), vs s] [] = some (vb true, []) := by
  apply enterS s3 rfl
  have haw := wAwake_spec
  have hsm := small_spec m hm
  simp only [msgL] at hsm
  cases c : smallM m with
  | false =>
    rw [c] at hsm
    (simp (disch := first | decide | omega | (intros; exact Eq.trans rfl rfl) | (simp only [puri]; done)) only [a3, msgL, hsm, haw, vis, visL, visB, fillR, rowsAt, toDs, toD, ↓ops_cons, ↓ops_consz, fzTs, fzLs, rg, rd, o, oz, kc, kb, ks, kx, on, og, od, ogd, A.run, evI, evOpt, evs, evP, argF, V.cs, binD, fzV, fzL, fzVs, dataVs, dataLs, V.data, L.data, unD, fillL, List.take_succ_cons, List.take_zero, List.drop_succ_cons, List.drop_zero, List.cons_append, ne_eq, Nat.reduceLT, Nat.reduceBEq, ↓reduceIte, Nat.reduceEqDiff, Nat.reduceAdd, Nat.reduceMul, Nat.reduceSub, Int.reduceToNat, Nat.reduceLeDiff, Int.reduceNeg, Int.reduceEq, Int.reduceLT, Int.reduceLE, Int.reduceBEq, Int.reduceBNe, Int.reduceToNat, dis])
    try simp [trim]
  | true =>
    rw [c] at hsm
    by_cases c2 : s.length ≤ 2000
    · have ht := small_t c
      have p1 := put16_spec m hm (by omega) (by omega)
      have p2 := refPut16_spec m hm (by omega) (by omega)
      have p3 := get16_spec s (by omega)
      have p4 := refGet16_spec s (by omega)
      have p5 := right16_spec m (by omega) hm.h_all hm.h_at_
      have p6 := refRight16_spec m (by omega)
      have p7 := refSame16_spec (getW s).1 (getW s).1 (by have := getW_recs s (by omega); omega)
      rw [decide_eq_true rfl] at p7
      obtain ⟨a, e, hp⟩ := putM_tup m
      rw [hp] at p1 p2
      obtain ⟨⟨g, ge⟩, hg⟩ : ∃ x, getW s = x := ⟨_, rfl⟩
      rw [hg] at p3 p4 p7
      simp only [getV] at p3 p4 p7
      have hbb := beqS_self a
      have hrr : (rightM m == rightM m) = true := beq_self_eq_true _
      simp only [msgL] at p1 p2 p3 p4 p5 p6 p7
      (simp (disch := first | decide | omega | (intros; exact Eq.trans rfl rfl) | (simp only [puri]; done)) only [a3, msgL, hsm, haw, p1, p2, p3, p4, p5, p6, p7, hbb, hrr, vis, visL, visB, fillR, rowsAt, toDs, toD, ↓ops_cons, ↓ops_consz, fzTs, fzLs, rg, rd, o, oz, kc, kb, ks, kx, on, og, od, ogd, A.run, evI, evOpt, evs, evP, argF, V.cs, binD, fzV, fzL, fzVs, dataVs, dataLs, V.data, L.data, unD, fillL, List.take_succ_cons, List.take_zero, List.drop_succ_cons, List.drop_zero, List.cons_append, ne_eq, Nat.reduceLT, Nat.reduceBEq, ↓reduceIte, Nat.reduceEqDiff, Nat.reduceAdd, Nat.reduceMul, Nat.reduceSub, Int.reduceToNat, Nat.reduceLeDiff, Int.reduceNeg, Int.reduceEq, Int.reduceLT, Int.reduceLE, Int.reduceBEq, Int.reduceBNe, Int.reduceToNat, dis])
      try simp [trim]
    · (simp (disch := first | decide | omega | (intros; exact Eq.trans rfl rfl) | (simp only [puri]; done)) only [a3, msgL, hsm, haw, c2, vis, visL, visB, fillR, rowsAt, toDs, toD, ↓ops_cons, ↓ops_consz, fzTs, fzLs, rg, rd, o, oz, kc, kb, ks, kx, on, og, od, ogd, A.run, evI, evOpt, evs, evP, argF, V.cs, binD, fzV, fzL, fzVs, dataVs, dataLs, V.data, L.data, unD, fillL, List.take_succ_cons, List.take_zero, List.drop_succ_cons, List.drop_zero, List.cons_append, ne_eq, Nat.reduceLT, Nat.reduceBEq, ↓reduceIte, Nat.reduceEqDiff, Nat.reduceAdd, Nat.reduceMul, Nat.reduceSub, Int.reduceToNat, Nat.reduceLeDiff, Int.reduceNeg, Int.reduceEq, Int.reduceLT, Int.reduceLE, Int.reduceBEq, Int.reduceBNe, Int.reduceToNat, dis])
      try simp [trim]
end Go.Proofs.Ytogleebbifpijaa
