import Derived.Test.YtogleebbifpijaaW77
set_option linter.unusedSimpArgs false
set_option linter.unusedVariables false
namespace Go.Proofs.Ytogleebbifpijaa
open Go.Vi
set_option linter.unusedSimpArgs false

/-! ### a reader of numbers and texts -/
abbrev RdS := List UInt8 × Bool
def num (t : RdS) : Int × RdS := match t.2, rdF t.1 0 0 with | false, some (v, k) => ((v : Int), (t.1.drop k, false)) | _, _ => (0, (t.1, true))
def txt (n : Int) (t : RdS) : List UInt8 × RdS := if t.2 = false ∧ n ≤ t.1.length then (t.1.take n.toNat, (t.1.drop n.toNat, false)) else ([], (t.1, true))
def rdrB (t : RdS) : Box := .cells [.d (.s t.1), .d (.b t.2)]
theorem num_ok {s : List UInt8} {v k : Nat} (h : rdF s 0 0 = some (v, k)) : num (s, false) = ((v : Int), (s.drop k, false)) := by unfold num; rw [h]
theorem num_none {s : List UInt8} (h : rdF s 0 0 = none) : num (s, false) = (0, (s, true)) := by unfold num; rw [h]
theorem num_bad (s : List UInt8) : num (s, true) = (0, (s, true)) := by unfold num; rfl
theorem num_nat (t : RdS) : natI (num t).1 := by
  obtain ⟨s, b⟩ := t
  cases b with
  | true => rw [num_bad]; unfold natI; simp
  | false =>
    cases h : rdF s 0 0 with
    | none => rw [num_none h]; unfold natI; simp
    | some q =>
      obtain ⟨v, k⟩ := q
      rw [num_ok h]
      have := rd_lt h
      unfold natI; simp only []; omega
theorem rdF_le : ∀ (s : List UInt8) (i n v k : Nat), rdF s i n = some (v, k) → k ≤ s.length + i ∧ i < k
  | [], _, _, _, _, h => by cases h
  | c :: r, i, n, v, k, h => by
    rw [rdF_cons] at h
    split at h
    · cases h
    · split at h
      · have := rdF_le r _ _ _ _ h
        simp only [List.length_cons]; omega
      · split at h
        · cases h
        · simp only [Option.some.injEq, Prod.mk.injEq] at h
          simp only [List.length_cons]; omega
theorem num_len (t : RdS) : (num t).2.1.length ≤ t.1.length := by
  obtain ⟨s, b⟩ := t
  cases b with
  | true => rw [num_bad]; simp
  | false =>
    cases h : rdF s 0 0 with
    | none => rw [num_none h]; simp
    | some q => obtain ⟨v, k⟩ := q; rw [num_ok h]; simp
set_option maxRecDepth 8000 in
theorem number_spec (t : RdS) (hl : t.1.length ≤ 1000000) : call 26 [.one (.p 0 0)] [rdrB t] = some (vi (num t).1, [rdrB (num t).2]) := by
  apply enterS s26 rfl
  obtain ⟨s, b⟩ := t
  simp only at hl
  have hr : call 44 [vs s, vi 0] [] = some (rdV 0 (rdF (s.drop 0) 0 0), []) := read_spec s 0 (by decide) (by omega)
  rw [List.drop_zero] at hr
  cases h : rdF s 0 0 with
  | none =>
    rw [h] at hr
    simp only [rdV] at hr
    have e : num (s, b) = (0, (s, true)) := by cases b with | true => exact num_bad s | false => exact num_none h
    rw [e]
    simp only [rdrB]
    (simp (disch := first | decide | omega | (intros; exact Eq.trans rfl rfl) | (simp only [puri]; done)) only [a26, hr, vis, visL, visB, fillR, rowsAt, toDs, toD, ↓ops_cons, ↓ops_consz, fzTs, fzLs, rg, rd, o, oz, kc, kb, ks, kx, on, og, od, ogd, A.run, evI, evOpt, evs, evP, argF, V.cs, binD, fzV, fzL, fzVs, dataVs, dataLs, V.data, L.data, unD, fillL, List.take_succ_cons, List.take_zero, List.drop_succ_cons, List.drop_zero, List.cons_append, ne_eq, Nat.reduceLT, Nat.reduceBEq, ↓reduceIte, Nat.reduceEqDiff, Nat.reduceAdd, Nat.reduceMul, Nat.reduceSub, Int.reduceToNat, Nat.reduceLeDiff, Int.reduceNeg, Int.reduceEq, Int.reduceLT, Int.reduceLE, Int.reduceBEq, Int.reduceBNe, Int.reduceToNat, dis])
    try simp [trim, V.refs, L.refs, Box.refs]
  | some q =>
    obtain ⟨v, k⟩ := q
    rw [h] at hr
    simp only [rdV, Nat.zero_add] at hr
    have hk := rdF_le s 0 0 v k h
    cases b with
    | true =>
      rw [num_bad]
      simp only [rdrB]
      (simp (disch := first | decide | omega | (intros; exact Eq.trans rfl rfl) | (simp only [puri]; done)) only [a26, hr, vis, visL, visB, fillR, rowsAt, toDs, toD, ↓ops_cons, ↓ops_consz, fzTs, fzLs, rg, rd, o, oz, kc, kb, ks, kx, on, og, od, ogd, A.run, evI, evOpt, evs, evP, argF, V.cs, binD, fzV, fzL, fzVs, dataVs, dataLs, V.data, L.data, unD, fillL, List.take_succ_cons, List.take_zero, List.drop_succ_cons, List.drop_zero, List.cons_append, ne_eq, Nat.reduceLT, Nat.reduceBEq, ↓reduceIte, Nat.reduceEqDiff, Nat.reduceAdd, Nat.reduceMul, Nat.reduceSub, Int.reduceToNat, Nat.reduceLeDiff, Int.reduceNeg, Int.reduceEq, Int.reduceLT, Int.reduceLE, Int.reduceBEq, Int.reduceBNe, Int.reduceToNat, dis])
      try simp [trim, V.refs, L.refs, Box.refs]
    | false =>
      rw [num_ok h]
      simp only [rdrB]
      (simp (disch := first | decide | omega | (intros; exact Eq.trans rfl rfl) | (simp only [puri]; done)) only [a26, hr, vis, visL, visB, fillR, rowsAt, toDs, toD, ↓ops_cons, ↓ops_consz, fzTs, fzLs, rg, rd, o, oz, kc, kb, ks, kx, on, og, od, ogd, A.run, evI, evOpt, evs, evP, argF, V.cs, binD, fzV, fzL, fzVs, dataVs, dataLs, V.data, L.data, unD, fillL, List.take_succ_cons, List.take_zero, List.drop_succ_cons, List.drop_zero, List.cons_append, ne_eq, Nat.reduceLT, Nat.reduceBEq, ↓reduceIte, Nat.reduceEqDiff, Nat.reduceAdd, Nat.reduceMul, Nat.reduceSub, Int.reduceToNat, Nat.reduceLeDiff, Int.reduceNeg, Int.reduceEq, Int.reduceLT, Int.reduceLE, Int.reduceBEq, Int.reduceBNe, Int.reduceToNat, dis])
      try simp [trim, V.refs, L.refs, Box.refs]
      try exact List.take_of_length_le (by simp)
set_option maxRecDepth 8000 in
theorem rtext_spec (t : RdS) (n : Int) (hn : natI n) (hl : t.1.length ≤ 1000000) : call 45 [.one (.p 0 0), vi n] [rdrB t] = some (vs (txt n t).1, [rdrB (txt n t).2]) := by
  apply enterS s45 rfl
  obtain ⟨s, b⟩ := t
  unfold natI at hn
  simp only at hl
  cases b with
  | true =>
    have e : txt n (s, true) = ([], (s, true)) := by unfold txt; simp
    rw [e]
    simp only [rdrB]
    (simp (disch := first | decide | omega | (intros; exact Eq.trans rfl rfl) | (simp only [puri]; done)) only [a45, vis, visL, visB, fillR, rowsAt, toDs, toD, ↓ops_cons, ↓ops_consz, fzTs, fzLs, rg, rd, o, oz, kc, kb, ks, kx, on, og, od, ogd, A.run, evI, evOpt, evs, evP, argF, V.cs, binD, fzV, fzL, fzVs, dataVs, dataLs, V.data, L.data, unD, fillL, List.take_succ_cons, List.take_zero, List.drop_succ_cons, List.drop_zero, List.cons_append, ne_eq, Nat.reduceLT, Nat.reduceBEq, ↓reduceIte, Nat.reduceEqDiff, Nat.reduceAdd, Nat.reduceMul, Nat.reduceSub, Int.reduceToNat, Nat.reduceLeDiff, Int.reduceNeg, Int.reduceEq, Int.reduceLT, Int.reduceLE, Int.reduceBEq, Int.reduceBNe, Int.reduceToNat, dis])
    try simp [trim, V.refs, L.refs, Box.refs]
  | false =>
    by_cases c : n ≤ s.length
    · have e : txt n (s, false) = (s.take n.toNat, (s.drop n.toNat, false)) := by unfold txt; rw [if_pos ⟨rfl, c⟩]
      rw [e]
      simp only [rdrB]
      (simp (disch := first | decide | omega | (intros; exact Eq.trans rfl rfl) | (simp only [puri]; done)) only [a45, c, vis, visL, visB, fillR, rowsAt, toDs, toD, ↓ops_cons, ↓ops_consz, fzTs, fzLs, rg, rd, o, oz, kc, kb, ks, kx, on, og, od, ogd, A.run, evI, evOpt, evs, evP, argF, V.cs, binD, fzV, fzL, fzVs, dataVs, dataLs, V.data, L.data, unD, fillL, List.take_succ_cons, List.take_zero, List.drop_succ_cons, List.drop_zero, List.cons_append, ne_eq, Nat.reduceLT, Nat.reduceBEq, ↓reduceIte, Nat.reduceEqDiff, Nat.reduceAdd, Nat.reduceMul, Nat.reduceSub, Int.reduceToNat, Nat.reduceLeDiff, Int.reduceNeg, Int.reduceEq, Int.reduceLT, Int.reduceLE, Int.reduceBEq, Int.reduceBNe, Int.reduceToNat, dis])
      try simp [trim, V.refs, L.refs, Box.refs]
      try exact List.take_of_length_le (by simp)
    · have e : txt n (s, false) = ([], (s, true)) := by unfold txt; rw [if_neg (by rintro ⟨_, h⟩; exact c h)]
      rw [e]
      simp only [rdrB]
      (simp (disch := first | decide | omega | (intros; exact Eq.trans rfl rfl) | (simp only [puri]; done)) only [a45, c, vis, visL, visB, fillR, rowsAt, toDs, toD, ↓ops_cons, ↓ops_consz, fzTs, fzLs, rg, rd, o, oz, kc, kb, ks, kx, on, og, od, ogd, A.run, evI, evOpt, evs, evP, argF, V.cs, binD, fzV, fzL, fzVs, dataVs, dataLs, V.data, L.data, unD, fillL, List.take_succ_cons, List.take_zero, List.drop_succ_cons, List.drop_zero, List.cons_append, ne_eq, Nat.reduceLT, Nat.reduceBEq, ↓reduceIte, Nat.reduceEqDiff, Nat.reduceAdd, Nat.reduceMul, Nat.reduceSub, Int.reduceToNat, Nat.reduceLeDiff, Int.reduceNeg, Int.reduceEq, Int.reduceLT, Int.reduceLE, Int.reduceBEq, Int.reduceBNe, Int.reduceToNat, dis])
      try simp [trim, V.refs, L.refs, Box.refs]
end Go.Proofs.Ytogleebbifpijaa
