import Derived.Test.YtogleebbifpijaaW82
set_option linter.unusedSimpArgs false
set_option linter.unusedVariables false
namespace Go.Proofs.Ytogleebbifpijaa
open Go.Vi
set_option linter.unusedSimpArgs false

/-! ### the document's reader: the same reader over what is left -/
def curB (S : List UInt8) (a : Nat) (b : Bool) : Box := .cells [.d (.s S), .d (.i .i64 (a : Int)), .d (.b b)]
set_option maxRecDepth 8000 in
theorem cnum_spec (S : List UInt8) (a : Nat) (b : Bool) (hl : S.length ≤ 1000000) (ha : a ≤ S.length) :
    ∃ a', a' ≤ S.length ∧ (num (S.drop a, b)).2.1 = S.drop a' ∧ call 48 [.one (.p 0 0)] [curB S a b] = some (vi (num (S.drop a, b)).1, [curB S a' (num (S.drop a, b)).2.2]) := by
  cases b with
  | true =>
    refine ⟨a, ha, by rw [num_bad], ?_⟩
    rw [num_bad]
    apply enterS s48 rfl
    simp only [curB]
    (simp (disch := first | decide | omega | (intros; exact Eq.trans rfl rfl) | (simp only [puri]; done)) only [a48, vis, visL, visB, fillR, rowsAt, toDs, toD, ↓ops_cons, ↓ops_consz, fzTs, fzLs, rg, rd, o, oz, kc, kb, ks, kx, on, og, od, ogd, A.run, evI, evOpt, evs, evP, argF, V.cs, binD, fzV, fzL, fzVs, dataVs, dataLs, V.data, L.data, unD, fillL, List.take_succ_cons, List.take_zero, List.drop_succ_cons, List.drop_zero, List.cons_append, ne_eq, Nat.reduceLT, Nat.reduceBEq, ↓reduceIte, Nat.reduceEqDiff, Nat.reduceAdd, Nat.reduceMul, Nat.reduceSub, Int.reduceToNat, Nat.reduceLeDiff, Int.reduceNeg, Int.reduceEq, Int.reduceLT, Int.reduceLE, Int.reduceBEq, Int.reduceBNe, Int.reduceToNat, dis])
    try simp [trim, V.refs, L.refs, Box.refs]
  | false =>
    have hr := refRead_spec S a (by omega) (by omega)
    cases h : rdF (S.drop a) 0 0 with
    | none =>
      refine ⟨a, ha, by rw [num_none h], ?_⟩
      rw [num_none h]
      rw [h] at hr
      simp only [rdV] at hr
      apply enterS s48 rfl
      simp only [curB]
      (simp (disch := first | decide | omega | (intros; exact Eq.trans rfl rfl) | (simp only [puri]; done)) only [a48, hr, vis, visL, visB, fillR, rowsAt, toDs, toD, ↓ops_cons, ↓ops_consz, fzTs, fzLs, rg, rd, o, oz, kc, kb, ks, kx, on, og, od, ogd, A.run, evI, evOpt, evs, evP, argF, V.cs, binD, fzV, fzL, fzVs, dataVs, dataLs, V.data, L.data, unD, fillL, List.take_succ_cons, List.take_zero, List.drop_succ_cons, List.drop_zero, List.cons_append, ne_eq, Nat.reduceLT, Nat.reduceBEq, ↓reduceIte, Nat.reduceEqDiff, Nat.reduceAdd, Nat.reduceMul, Nat.reduceSub, Int.reduceToNat, Nat.reduceLeDiff, Int.reduceNeg, Int.reduceEq, Int.reduceLT, Int.reduceLE, Int.reduceBEq, Int.reduceBNe, Int.reduceToNat, dis])
      try simp [trim, V.refs, L.refs, Box.refs]
    | some q =>
      obtain ⟨v, k⟩ := q
      have hk := rdF_le _ _ _ _ _ h
      simp only [List.length_drop] at hk
      refine ⟨a + k, by omega, by rw [num_ok h, List.drop_drop], ?_⟩
      rw [num_ok h]
      rw [h] at hr
      simp only [rdV] at hr
      apply enterS s48 rfl
      simp only [curB]
      (simp (disch := first | decide | omega | (intros; exact Eq.trans rfl rfl) | (simp only [puri]; done)) only [a48, hr, vis, visL, visB, fillR, rowsAt, toDs, toD, ↓ops_cons, ↓ops_consz, fzTs, fzLs, rg, rd, o, oz, kc, kb, ks, kx, on, og, od, ogd, A.run, evI, evOpt, evs, evP, argF, V.cs, binD, fzV, fzL, fzVs, dataVs, dataLs, V.data, L.data, unD, fillL, List.take_succ_cons, List.take_zero, List.drop_succ_cons, List.drop_zero, List.cons_append, ne_eq, Nat.reduceLT, Nat.reduceBEq, ↓reduceIte, Nat.reduceEqDiff, Nat.reduceAdd, Nat.reduceMul, Nat.reduceSub, Int.reduceToNat, Nat.reduceLeDiff, Int.reduceNeg, Int.reduceEq, Int.reduceLT, Int.reduceLE, Int.reduceBEq, Int.reduceBNe, Int.reduceToNat, dis])
      try simp [trim, V.refs, L.refs, Box.refs]
set_option maxRecDepth 8000 in
theorem ctext_spec (S : List UInt8) (a : Nat) (b : Bool) (n : Int) (hn : natI n) (hl : S.length ≤ 1000000) (ha : a ≤ S.length) :
    ∃ a', a' ≤ S.length ∧ (txt n (S.drop a, b)).2.1 = S.drop a' ∧ call 49 [.one (.p 0 0), vi n] [curB S a b] = some (vs (txt n (S.drop a, b)).1, [curB S a' (txt n (S.drop a, b)).2.2]) := by
  unfold natI at hn
  cases b with
  | true =>
    have e : txt n (S.drop a, true) = ([], (S.drop a, true)) := by unfold txt; simp
    rw [e]
    refine ⟨a, ha, rfl, ?_⟩
    apply enterS s49 rfl
    simp only [curB]
    (simp (disch := first | decide | omega | (intros; exact Eq.trans rfl rfl) | (simp only [puri]; done)) only [a49, vis, visL, visB, fillR, rowsAt, toDs, toD, ↓ops_cons, ↓ops_consz, fzTs, fzLs, rg, rd, o, oz, kc, kb, ks, kx, on, og, od, ogd, A.run, evI, evOpt, evs, evP, argF, V.cs, binD, fzV, fzL, fzVs, dataVs, dataLs, V.data, L.data, unD, fillL, List.take_succ_cons, List.take_zero, List.drop_succ_cons, List.drop_zero, List.cons_append, ne_eq, Nat.reduceLT, Nat.reduceBEq, ↓reduceIte, Nat.reduceEqDiff, Nat.reduceAdd, Nat.reduceMul, Nat.reduceSub, Int.reduceToNat, Nat.reduceLeDiff, Int.reduceNeg, Int.reduceEq, Int.reduceLT, Int.reduceLE, Int.reduceBEq, Int.reduceBNe, Int.reduceToNat, dis])
    try simp [trim, V.refs, L.refs, Box.refs]
  | false =>
    by_cases c : n ≤ (S.length : Int) - a
    · have e : txt n (S.drop a, false) = ((S.drop a).take n.toNat, ((S.drop a).drop n.toNat, false)) := by
        unfold txt; rw [if_pos ⟨rfl, by simp only [List.length_drop]; omega⟩]
      rw [e]
      refine ⟨a + n.toNat, by omega, by simp [List.drop_drop], ?_⟩
      apply enterS s49 rfl
      simp only [curB]
      have hto : ((a : Int) + n).toNat = a + n.toNat := by omega
      have hc : ((a + n.toNat : Nat) : Int) = (a : Int) + n := by omega
      rw [hc]
      (simp (disch := first | decide | omega | (intros; exact Eq.trans rfl rfl) | (simp only [puri]; done)) only [a49, c, hto, vis, visL, visB, fillR, rowsAt, toDs, toD, ↓ops_cons, ↓ops_consz, fzTs, fzLs, rg, rd, o, oz, kc, kb, ks, kx, on, og, od, ogd, A.run, evI, evOpt, evs, evP, argF, V.cs, binD, fzV, fzL, fzVs, dataVs, dataLs, V.data, L.data, unD, fillL, List.take_succ_cons, List.take_zero, List.drop_succ_cons, List.drop_zero, List.cons_append, ne_eq, Nat.reduceLT, Nat.reduceBEq, ↓reduceIte, Nat.reduceEqDiff, Nat.reduceAdd, Nat.reduceMul, Nat.reduceSub, Int.reduceToNat, Nat.reduceLeDiff, Int.reduceNeg, Int.reduceEq, Int.reduceLT, Int.reduceLE, Int.reduceBEq, Int.reduceBNe, Int.reduceToNat, dis])
      simp [trim, V.refs, L.refs, Box.refs]
      rw [List.drop_take]; congr 1; omega
    · have e : txt n (S.drop a, false) = ([], (S.drop a, true)) := by
        unfold txt; rw [if_neg (by rintro ⟨_, h⟩; simp only [List.length_drop] at h; omega)]
      rw [e]
      refine ⟨a, ha, rfl, ?_⟩
      apply enterS s49 rfl
      simp only [curB]
      (simp (disch := first | decide | omega | (intros; exact Eq.trans rfl rfl) | (simp only [puri]; done)) only [a49, c, vis, visL, visB, fillR, rowsAt, toDs, toD, ↓ops_cons, ↓ops_consz, fzTs, fzLs, rg, rd, o, oz, kc, kb, ks, kx, on, og, od, ogd, A.run, evI, evOpt, evs, evP, argF, V.cs, binD, fzV, fzL, fzVs, dataVs, dataLs, V.data, L.data, unD, fillL, List.take_succ_cons, List.take_zero, List.drop_succ_cons, List.drop_zero, List.cons_append, ne_eq, Nat.reduceLT, Nat.reduceBEq, ↓reduceIte, Nat.reduceEqDiff, Nat.reduceAdd, Nat.reduceMul, Nat.reduceSub, Int.reduceToNat, Nat.reduceLeDiff, Int.reduceNeg, Int.reduceEq, Int.reduceLT, Int.reduceLE, Int.reduceBEq, Int.reduceBNe, Int.reduceToNat, dis])
      try simp [trim, V.refs, L.refs, Box.refs]
end Go.Proofs.Ytogleebbifpijaa
