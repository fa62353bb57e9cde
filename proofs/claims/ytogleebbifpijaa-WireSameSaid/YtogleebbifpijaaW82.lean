import Derived.Test.YtogleebbifpijaaW81
set_option linter.unusedSimpArgs false
set_option linter.unusedVariables false
namespace Go.Proofs.Ytogleebbifpijaa
open Go.Vi
set_option linter.unusedSimpArgs false

def gH (t : RdS) : Nat → Hp
  | 0 => [.cells [.d (.i .i64 0), .d (.i .i64 0), .d (.i .i64 0), .d (.i .i64 0), .d (.i .i64 0), .d (.i .i64 0), .d (.i .i64 0), .d (.i .i64 0), .d (.i .i64 0), .d (.i .i64 0), .d (.i .i64 0), .d (.i .i64 0), .d (.i .u32 0), .d (.s []), .ns], .cells [.d (.s (sq t 0).1), .d (.b (sq t 0).2)], .cells [.d (.i .i64 0), .d (.i .i64 0), .d (.i .i64 0), .d (.i .i64 0), .d (.i .i64 0), .d (.i .i64 0), .d (.i .i64 0), .d (.i .i64 0), .d (.i .i64 0), .d (.i .i64 0), .d (.i .i64 0), .d (.i .i64 0), .d (.i .u32 0), .d (.s []), .ns], .cells [.p 2 0, .p 2 1, .p 2 2, .p 2 3, .p 2 4, .p 2 5, .p 2 6]]
  | 1 => [.cells [.d (.i .i64 0), .d (.i .i64 0), .d (.i .i64 0), .d (.i .i64 0), .d (.i .i64 0), .d (.i .i64 0), .d (.i .i64 0), .d (.i .i64 0), .d (.i .i64 0), .d (.i .i64 0), .d (.i .i64 0), .d (.i .i64 0), .d (.i .u32 0), .d (.s []), .ns], .cells [.d (.s (sq t 1).1), .d (.b (sq t 1).2)], .cells [.d (.i .i64 (vq t 0)), .d (.i .i64 0), .d (.i .i64 0), .d (.i .i64 0), .d (.i .i64 0), .d (.i .i64 0), .d (.i .i64 0), .d (.i .i64 0), .d (.i .i64 0), .d (.i .i64 0), .d (.i .i64 0), .d (.i .i64 0), .d (.i .u32 0), .d (.s []), .ns], .cells [.p 2 0, .p 2 1, .p 2 2, .p 2 3, .p 2 4, .p 2 5, .p 2 6]]
  | 2 => [.cells [.d (.i .i64 0), .d (.i .i64 0), .d (.i .i64 0), .d (.i .i64 0), .d (.i .i64 0), .d (.i .i64 0), .d (.i .i64 0), .d (.i .i64 0), .d (.i .i64 0), .d (.i .i64 0), .d (.i .i64 0), .d (.i .i64 0), .d (.i .u32 0), .d (.s []), .ns], .cells [.d (.s (sq t 2).1), .d (.b (sq t 2).2)], .cells [.d (.i .i64 (vq t 0)), .d (.i .i64 (vq t 1)), .d (.i .i64 0), .d (.i .i64 0), .d (.i .i64 0), .d (.i .i64 0), .d (.i .i64 0), .d (.i .i64 0), .d (.i .i64 0), .d (.i .i64 0), .d (.i .i64 0), .d (.i .i64 0), .d (.i .u32 0), .d (.s []), .ns], .cells [.p 2 0, .p 2 1, .p 2 2, .p 2 3, .p 2 4, .p 2 5, .p 2 6]]
  | 3 => [.cells [.d (.i .i64 0), .d (.i .i64 0), .d (.i .i64 0), .d (.i .i64 0), .d (.i .i64 0), .d (.i .i64 0), .d (.i .i64 0), .d (.i .i64 0), .d (.i .i64 0), .d (.i .i64 0), .d (.i .i64 0), .d (.i .i64 0), .d (.i .u32 0), .d (.s []), .ns], .cells [.d (.s (sq t 3).1), .d (.b (sq t 3).2)], .cells [.d (.i .i64 (vq t 0)), .d (.i .i64 (vq t 1)), .d (.i .i64 (vq t 2)), .d (.i .i64 0), .d (.i .i64 0), .d (.i .i64 0), .d (.i .i64 0), .d (.i .i64 0), .d (.i .i64 0), .d (.i .i64 0), .d (.i .i64 0), .d (.i .i64 0), .d (.i .u32 0), .d (.s []), .ns], .cells [.p 2 0, .p 2 1, .p 2 2, .p 2 3, .p 2 4, .p 2 5, .p 2 6]]
  | 4 => [.cells [.d (.i .i64 0), .d (.i .i64 0), .d (.i .i64 0), .d (.i .i64 0), .d (.i .i64 0), .d (.i .i64 0), .d (.i .i64 0), .d (.i .i64 0), .d (.i .i64 0), .d (.i .i64 0), .d (.i .i64 0), .d (.i .i64 0), .d (.i .u32 0), .d (.s []), .ns], .cells [.d (.s (sq t 4).1), .d (.b (sq t 4).2)], .cells [.d (.i .i64 (vq t 0)), .d (.i .i64 (vq t 1)), .d (.i .i64 (vq t 2)), .d (.i .i64 (vq t 3)), .d (.i .i64 0), .d (.i .i64 0), .d (.i .i64 0), .d (.i .i64 0), .d (.i .i64 0), .d (.i .i64 0), .d (.i .i64 0), .d (.i .i64 0), .d (.i .u32 0), .d (.s []), .ns], .cells [.p 2 0, .p 2 1, .p 2 2, .p 2 3, .p 2 4, .p 2 5, .p 2 6]]
  | 5 => [.cells [.d (.i .i64 0), .d (.i .i64 0), .d (.i .i64 0), .d (.i .i64 0), .d (.i .i64 0), .d (.i .i64 0), .d (.i .i64 0), .d (.i .i64 0), .d (.i .i64 0), .d (.i .i64 0), .d (.i .i64 0), .d (.i .i64 0), .d (.i .u32 0), .d (.s []), .ns], .cells [.d (.s (sq t 5).1), .d (.b (sq t 5).2)], .cells [.d (.i .i64 (vq t 0)), .d (.i .i64 (vq t 1)), .d (.i .i64 (vq t 2)), .d (.i .i64 (vq t 3)), .d (.i .i64 (vq t 4)), .d (.i .i64 0), .d (.i .i64 0), .d (.i .i64 0), .d (.i .i64 0), .d (.i .i64 0), .d (.i .i64 0), .d (.i .i64 0), .d (.i .u32 0), .d (.s []), .ns], .cells [.p 2 0, .p 2 1, .p 2 2, .p 2 3, .p 2 4, .p 2 5, .p 2 6]]
  | 6 => [.cells [.d (.i .i64 0), .d (.i .i64 0), .d (.i .i64 0), .d (.i .i64 0), .d (.i .i64 0), .d (.i .i64 0), .d (.i .i64 0), .d (.i .i64 0), .d (.i .i64 0), .d (.i .i64 0), .d (.i .i64 0), .d (.i .i64 0), .d (.i .u32 0), .d (.s []), .ns], .cells [.d (.s (sq t 6).1), .d (.b (sq t 6).2)], .cells [.d (.i .i64 (vq t 0)), .d (.i .i64 (vq t 1)), .d (.i .i64 (vq t 2)), .d (.i .i64 (vq t 3)), .d (.i .i64 (vq t 4)), .d (.i .i64 (vq t 5)), .d (.i .i64 0), .d (.i .i64 0), .d (.i .i64 0), .d (.i .i64 0), .d (.i .i64 0), .d (.i .i64 0), .d (.i .u32 0), .d (.s []), .ns], .cells [.p 2 0, .p 2 1, .p 2 2, .p 2 3, .p 2 4, .p 2 5, .p 2 6]]
  | _ => [.cells [.d (.i .i64 0), .d (.i .i64 0), .d (.i .i64 0), .d (.i .i64 0), .d (.i .i64 0), .d (.i .i64 0), .d (.i .i64 0), .d (.i .i64 0), .d (.i .i64 0), .d (.i .i64 0), .d (.i .i64 0), .d (.i .i64 0), .d (.i .u32 0), .d (.s []), .ns], .cells [.d (.s (sq t 7).1), .d (.b (sq t 7).2)], .cells [.d (.i .i64 (vq t 0)), .d (.i .i64 (vq t 1)), .d (.i .i64 (vq t 2)), .d (.i .i64 (vq t 3)), .d (.i .i64 (vq t 4)), .d (.i .i64 (vq t 5)), .d (.i .i64 (vq t 6)), .d (.i .i64 0), .d (.i .i64 0), .d (.i .i64 0), .d (.i .i64 0), .d (.i .i64 0), .d (.i .u32 0), .d (.s []), .ns], .cells [.p 2 0, .p 2 1, .p 2 2, .p 2 3, .p 2 4, .p 2 5, .p 2 6]]

set_option maxRecDepth 8000 in
set_option maxHeartbeats 8000000 in
theorem get16_spec (s : List UInt8) (hs : s.length ≤ 100000) : call 11 [vs s] [] = some (getV (getW s), []) := by
  apply enterS s11 rfl
  have hn : call 25 [vs s, vi 0] [] = some (nextV (nextF s 0), []) := next_spec s 0 (by decide) (by omega)
  have htl := nextF_tlen s 0
  obtain ⟨W, hW⟩ : ∃ W : V × Hp, W = (getV (getW s), []) := ⟨_, rfl⟩
  rw [← hW]
  unfold getW at hW
  obtain ⟨⟨b, n, e⟩, hx⟩ : ∃ x, nextF s 0 = x := ⟨_, rfl⟩
  rw [hx] at hn htl hW
  simp only [nextV] at hn htl hW
  by_cases c : e = 0
  · subst c
    rw [if_pos rfl] at hW
    obtain ⟨bad, hbad⟩ : ∃ x, x = decide (n ≠ s.length) := ⟨_, rfl⟩
    rw [← hbad] at hW
    obtain ⟨t, ht⟩ : ∃ t : RdS, t = (b, bad) := ⟨_, rfl⟩
    rw [← ht] at hW
    have htb : t.1.length ≤ 100000 := by rw [ht]; simp only []; omega
    have hsl := sq_len t
    have hb1 : b = (sq t 0).1 := by rw [ht]; rfl
    have hb2 : bad = (sq t 0).2 := by rw [ht]; rfl
    have hcmp : ((n : Int) != (s.length : Int)) = bad := by
      rw [hbad, Bool.eq_iff_iff]; simp; omega
    (simp (disch := first | decide | omega | (intros; exact Eq.trans rfl rfl) | (simp only [puri]; done)) only [a11, hn, hcmp, vis, visL, visB, fillR, rowsAt, toDs, toD, ↓ops_cons, ↓ops_consz, fzTs, fzLs, rg, rd, o, oz, kc, kb, ks, kx, on, og, od, ogd, A.run, evI, evOpt, evs, evP, argF, V.cs, binD, fzV, fzL, fzVs, dataVs, dataLs, V.data, L.data, unD, fillL, List.take_succ_cons, List.take_zero, List.drop_succ_cons, List.drop_zero, List.cons_append, ne_eq, Nat.reduceLT, Nat.reduceBEq, ↓reduceIte, Nat.reduceEqDiff, Nat.reduceAdd, Nat.reduceMul, Nat.reduceSub, Int.reduceToNat, Nat.reduceLeDiff, Int.reduceNeg, Int.reduceEq, Int.reduceLT, Int.reduceLE, Int.reduceBEq, Int.reduceBNe, Int.reduceToNat, dis])
    refine loop_box (σ := Nat) (fun i => 7 - i) (fun i => i ≤ 7) (fun i => [V.one (.p 0 0), V.one (.p 1 0), V.one (.p 2 0), V.one (.sp 3 7), vi 7, vi i]) (fun i => gH t i) (fun _ => W) ?_ 0 (by omega) _ _ ?_
    rotate_left
    · subst ht
      exact (at_headM (by decide) (by simp only [List.map_cons, List.map_nil, vis, visL, visB, fillR, rowsAt, toDs, toD, ↓ops_cons, ↓ops_consz, fzTs, fzLs, rg, rd, o, oz, kc, kb, ks, kx, on, og, od, ogd, A.run, evI, evOpt, evs, evP, argF, V.cs, binD, fzV, fzL, fzVs, dataVs, dataLs, V.data, L.data, unD, fillL, List.take_succ_cons, List.take_zero, List.drop_succ_cons, List.drop_zero, List.cons_append, ne_eq, Nat.reduceLT, Nat.reduceBEq, ↓reduceIte, Nat.reduceEqDiff, Nat.reduceAdd, Nat.reduceMul, Nat.reduceSub, Int.reduceToNat, Nat.reduceLeDiff, Int.reduceNeg, Int.reduceEq, Int.reduceLT, Int.reduceLE, Int.reduceBEq, Int.reduceBNe, Int.reduceToNat]; exact rfl) (by rfl) (by rfl) (by rfl))
    intro i hi R hR
    have hcase : i = 0 ∨ i = 1 ∨ i = 2 ∨ i = 3 ∨ i = 4 ∨ i = 5 ∨ i = 6 ∨ i = 7 := by omega
    have q0 := numI1 (sq t 0) (by have := hsl 0; omega)
    have q1 := numI1 (sq t 1) (by have := hsl 1; omega)
    have q2 := numI1 (sq t 2) (by have := hsl 2; omega)
    have q3 := numI1 (sq t 3) (by have := hsl 3; omega)
    have q4 := numI1 (sq t 4) (by have := hsl 4; omega)
    have q5 := numI1 (sq t 5) (by have := hsl 5; omega)
    have q6 := numI1 (sq t 6) (by have := hsl 6; omega)
    rcases hcase with rfl | rfl | rfl | rfl | rfl | rfl | rfl | rfl
    · simp only [gH]
      (simp (disch := first | decide | omega | (intros; exact Eq.trans rfl rfl) | (simp only [puri]; done)) only [a11_0, q0, vis, visL, visB, fillR, rowsAt, toDs, toD, ↓ops_cons, ↓ops_consz, fzTs, fzLs, rg, rd, o, oz, kc, kb, ks, kx, on, og, od, ogd, A.run, evI, evOpt, evs, evP, argF, V.cs, binD, fzV, fzL, fzVs, dataVs, dataLs, V.data, L.data, unD, fillL, List.take_succ_cons, List.take_zero, List.drop_succ_cons, List.drop_zero, List.cons_append, ne_eq, Nat.reduceLT, Nat.reduceBEq, ↓reduceIte, Nat.reduceEqDiff, Nat.reduceAdd, Nat.reduceMul, Nat.reduceSub, Int.reduceToNat, Nat.reduceLeDiff, Int.reduceNeg, Int.reduceEq, Int.reduceLT, Int.reduceLE, Int.reduceBEq, Int.reduceBNe, Int.reduceToNat, dis])
      exact hR 1 (by omega) (by omega) _ _ (at_headM (by decide) (by simp only [List.map_cons, List.map_nil, vis, visL, visB, fillR, rowsAt, toDs, toD, ↓ops_cons, ↓ops_consz, fzTs, fzLs, rg, rd, o, oz, kc, kb, ks, kx, on, og, od, ogd, A.run, evI, evOpt, evs, evP, argF, V.cs, binD, fzV, fzL, fzVs, dataVs, dataLs, V.data, L.data, unD, fillL, List.take_succ_cons, List.take_zero, List.drop_succ_cons, List.drop_zero, List.cons_append, ne_eq, Nat.reduceLT, Nat.reduceBEq, ↓reduceIte, Nat.reduceEqDiff, Nat.reduceAdd, Nat.reduceMul, Nat.reduceSub, Int.reduceToNat, Nat.reduceLeDiff, Int.reduceNeg, Int.reduceEq, Int.reduceLT, Int.reduceLE, Int.reduceBEq, Int.reduceBNe, Int.reduceToNat]; exact rfl) (by rfl) (by rfl) (by rfl))
    · simp only [gH]
      (simp (disch := first | decide | omega | (intros; exact Eq.trans rfl rfl) | (simp only [puri]; done)) only [a11_0, q1, vis, visL, visB, fillR, rowsAt, toDs, toD, ↓ops_cons, ↓ops_consz, fzTs, fzLs, rg, rd, o, oz, kc, kb, ks, kx, on, og, od, ogd, A.run, evI, evOpt, evs, evP, argF, V.cs, binD, fzV, fzL, fzVs, dataVs, dataLs, V.data, L.data, unD, fillL, List.take_succ_cons, List.take_zero, List.drop_succ_cons, List.drop_zero, List.cons_append, ne_eq, Nat.reduceLT, Nat.reduceBEq, ↓reduceIte, Nat.reduceEqDiff, Nat.reduceAdd, Nat.reduceMul, Nat.reduceSub, Int.reduceToNat, Nat.reduceLeDiff, Int.reduceNeg, Int.reduceEq, Int.reduceLT, Int.reduceLE, Int.reduceBEq, Int.reduceBNe, Int.reduceToNat, dis])
      exact hR 2 (by omega) (by omega) _ _ (at_headM (by decide) (by simp only [List.map_cons, List.map_nil, vis, visL, visB, fillR, rowsAt, toDs, toD, ↓ops_cons, ↓ops_consz, fzTs, fzLs, rg, rd, o, oz, kc, kb, ks, kx, on, og, od, ogd, A.run, evI, evOpt, evs, evP, argF, V.cs, binD, fzV, fzL, fzVs, dataVs, dataLs, V.data, L.data, unD, fillL, List.take_succ_cons, List.take_zero, List.drop_succ_cons, List.drop_zero, List.cons_append, ne_eq, Nat.reduceLT, Nat.reduceBEq, ↓reduceIte, Nat.reduceEqDiff, Nat.reduceAdd, Nat.reduceMul, Nat.reduceSub, Int.reduceToNat, Nat.reduceLeDiff, Int.reduceNeg, Int.reduceEq, Int.reduceLT, Int.reduceLE, Int.reduceBEq, Int.reduceBNe, Int.reduceToNat]; exact rfl) (by rfl) (by rfl) (by rfl))
    · simp only [gH]
      (simp (disch := first | decide | omega | (intros; exact Eq.trans rfl rfl) | (simp only [puri]; done)) only [a11_0, q2, vis, visL, visB, fillR, rowsAt, toDs, toD, ↓ops_cons, ↓ops_consz, fzTs, fzLs, rg, rd, o, oz, kc, kb, ks, kx, on, og, od, ogd, A.run, evI, evOpt, evs, evP, argF, V.cs, binD, fzV, fzL, fzVs, dataVs, dataLs, V.data, L.data, unD, fillL, List.take_succ_cons, List.take_zero, List.drop_succ_cons, List.drop_zero, List.cons_append, ne_eq, Nat.reduceLT, Nat.reduceBEq, ↓reduceIte, Nat.reduceEqDiff, Nat.reduceAdd, Nat.reduceMul, Nat.reduceSub, Int.reduceToNat, Nat.reduceLeDiff, Int.reduceNeg, Int.reduceEq, Int.reduceLT, Int.reduceLE, Int.reduceBEq, Int.reduceBNe, Int.reduceToNat, dis])
      exact hR 3 (by omega) (by omega) _ _ (at_headM (by decide) (by simp only [List.map_cons, List.map_nil, vis, visL, visB, fillR, rowsAt, toDs, toD, ↓ops_cons, ↓ops_consz, fzTs, fzLs, rg, rd, o, oz, kc, kb, ks, kx, on, og, od, ogd, A.run, evI, evOpt, evs, evP, argF, V.cs, binD, fzV, fzL, fzVs, dataVs, dataLs, V.data, L.data, unD, fillL, List.take_succ_cons, List.take_zero, List.drop_succ_cons, List.drop_zero, List.cons_append, ne_eq, Nat.reduceLT, Nat.reduceBEq, ↓reduceIte, Nat.reduceEqDiff, Nat.reduceAdd, Nat.reduceMul, Nat.reduceSub, Int.reduceToNat, Nat.reduceLeDiff, Int.reduceNeg, Int.reduceEq, Int.reduceLT, Int.reduceLE, Int.reduceBEq, Int.reduceBNe, Int.reduceToNat]; exact rfl) (by rfl) (by rfl) (by rfl))
    · simp only [gH]
      (simp (disch := first | decide | omega | (intros; exact Eq.trans rfl rfl) | (simp only [puri]; done)) only [a11_0, q3, vis, visL, visB, fillR, rowsAt, toDs, toD, ↓ops_cons, ↓ops_consz, fzTs, fzLs, rg, rd, o, oz, kc, kb, ks, kx, on, og, od, ogd, A.run, evI, evOpt, evs, evP, argF, V.cs, binD, fzV, fzL, fzVs, dataVs, dataLs, V.data, L.data, unD, fillL, List.take_succ_cons, List.take_zero, List.drop_succ_cons, List.drop_zero, List.cons_append, ne_eq, Nat.reduceLT, Nat.reduceBEq, ↓reduceIte, Nat.reduceEqDiff, Nat.reduceAdd, Nat.reduceMul, Nat.reduceSub, Int.reduceToNat, Nat.reduceLeDiff, Int.reduceNeg, Int.reduceEq, Int.reduceLT, Int.reduceLE, Int.reduceBEq, Int.reduceBNe, Int.reduceToNat, dis])
      exact hR 4 (by omega) (by omega) _ _ (at_headM (by decide) (by simp only [List.map_cons, List.map_nil, vis, visL, visB, fillR, rowsAt, toDs, toD, ↓ops_cons, ↓ops_consz, fzTs, fzLs, rg, rd, o, oz, kc, kb, ks, kx, on, og, od, ogd, A.run, evI, evOpt, evs, evP, argF, V.cs, binD, fzV, fzL, fzVs, dataVs, dataLs, V.data, L.data, unD, fillL, List.take_succ_cons, List.take_zero, List.drop_succ_cons, List.drop_zero, List.cons_append, ne_eq, Nat.reduceLT, Nat.reduceBEq, ↓reduceIte, Nat.reduceEqDiff, Nat.reduceAdd, Nat.reduceMul, Nat.reduceSub, Int.reduceToNat, Nat.reduceLeDiff, Int.reduceNeg, Int.reduceEq, Int.reduceLT, Int.reduceLE, Int.reduceBEq, Int.reduceBNe, Int.reduceToNat]; exact rfl) (by rfl) (by rfl) (by rfl))
    · simp only [gH]
      (simp (disch := first | decide | omega | (intros; exact Eq.trans rfl rfl) | (simp only [puri]; done)) only [a11_0, q4, vis, visL, visB, fillR, rowsAt, toDs, toD, ↓ops_cons, ↓ops_consz, fzTs, fzLs, rg, rd, o, oz, kc, kb, ks, kx, on, og, od, ogd, A.run, evI, evOpt, evs, evP, argF, V.cs, binD, fzV, fzL, fzVs, dataVs, dataLs, V.data, L.data, unD, fillL, List.take_succ_cons, List.take_zero, List.drop_succ_cons, List.drop_zero, List.cons_append, ne_eq, Nat.reduceLT, Nat.reduceBEq, ↓reduceIte, Nat.reduceEqDiff, Nat.reduceAdd, Nat.reduceMul, Nat.reduceSub, Int.reduceToNat, Nat.reduceLeDiff, Int.reduceNeg, Int.reduceEq, Int.reduceLT, Int.reduceLE, Int.reduceBEq, Int.reduceBNe, Int.reduceToNat, dis])
      exact hR 5 (by omega) (by omega) _ _ (at_headM (by decide) (by simp only [List.map_cons, List.map_nil, vis, visL, visB, fillR, rowsAt, toDs, toD, ↓ops_cons, ↓ops_consz, fzTs, fzLs, rg, rd, o, oz, kc, kb, ks, kx, on, og, od, ogd, A.run, evI, evOpt, evs, evP, argF, V.cs, binD, fzV, fzL, fzVs, dataVs, dataLs, V.data, L.data, unD, fillL, List.take_succ_cons, List.take_zero, List.drop_succ_cons, List.drop_zero, List.cons_append, ne_eq, Nat.reduceLT, Nat.reduceBEq, ↓reduceIte, Nat.reduceEqDiff, Nat.reduceAdd, Nat.reduceMul, Nat.reduceSub, Int.reduceToNat, Nat.reduceLeDiff, Int.reduceNeg, Int.reduceEq, Int.reduceLT, Int.reduceLE, Int.reduceBEq, Int.reduceBNe, Int.reduceToNat]; exact rfl) (by rfl) (by rfl) (by rfl))
    · simp only [gH]
      (simp (disch := first | decide | omega | (intros; exact Eq.trans rfl rfl) | (simp only [puri]; done)) only [a11_0, q5, vis, visL, visB, fillR, rowsAt, toDs, toD, ↓ops_cons, ↓ops_consz, fzTs, fzLs, rg, rd, o, oz, kc, kb, ks, kx, on, og, od, ogd, A.run, evI, evOpt, evs, evP, argF, V.cs, binD, fzV, fzL, fzVs, dataVs, dataLs, V.data, L.data, unD, fillL, List.take_succ_cons, List.take_zero, List.drop_succ_cons, List.drop_zero, List.cons_append, ne_eq, Nat.reduceLT, Nat.reduceBEq, ↓reduceIte, Nat.reduceEqDiff, Nat.reduceAdd, Nat.reduceMul, Nat.reduceSub, Int.reduceToNat, Nat.reduceLeDiff, Int.reduceNeg, Int.reduceEq, Int.reduceLT, Int.reduceLE, Int.reduceBEq, Int.reduceBNe, Int.reduceToNat, dis])
      exact hR 6 (by omega) (by omega) _ _ (at_headM (by decide) (by simp only [List.map_cons, List.map_nil, vis, visL, visB, fillR, rowsAt, toDs, toD, ↓ops_cons, ↓ops_consz, fzTs, fzLs, rg, rd, o, oz, kc, kb, ks, kx, on, og, od, ogd, A.run, evI, evOpt, evs, evP, argF, V.cs, binD, fzV, fzL, fzVs, dataVs, dataLs, V.data, L.data, unD, fillL, List.take_succ_cons, List.take_zero, List.drop_succ_cons, List.drop_zero, List.cons_append, ne_eq, Nat.reduceLT, Nat.reduceBEq, ↓reduceIte, Nat.reduceEqDiff, Nat.reduceAdd, Nat.reduceMul, Nat.reduceSub, Int.reduceToNat, Nat.reduceLeDiff, Int.reduceNeg, Int.reduceEq, Int.reduceLT, Int.reduceLE, Int.reduceBEq, Int.reduceBNe, Int.reduceToNat]; exact rfl) (by rfl) (by rfl) (by rfl))
    · simp only [gH]
      (simp (disch := first | decide | omega | (intros; exact Eq.trans rfl rfl) | (simp only [puri]; done)) only [a11_0, q6, vis, visL, visB, fillR, rowsAt, toDs, toD, ↓ops_cons, ↓ops_consz, fzTs, fzLs, rg, rd, o, oz, kc, kb, ks, kx, on, og, od, ogd, A.run, evI, evOpt, evs, evP, argF, V.cs, binD, fzV, fzL, fzVs, dataVs, dataLs, V.data, L.data, unD, fillL, List.take_succ_cons, List.take_zero, List.drop_succ_cons, List.drop_zero, List.cons_append, ne_eq, Nat.reduceLT, Nat.reduceBEq, ↓reduceIte, Nat.reduceEqDiff, Nat.reduceAdd, Nat.reduceMul, Nat.reduceSub, Int.reduceToNat, Nat.reduceLeDiff, Int.reduceNeg, Int.reduceEq, Int.reduceLT, Int.reduceLE, Int.reduceBEq, Int.reduceBNe, Int.reduceToNat, dis])
      exact hR 7 (by omega) (by omega) _ _ (at_headM (by decide) (by simp only [List.map_cons, List.map_nil, vis, visL, visB, fillR, rowsAt, toDs, toD, ↓ops_cons, ↓ops_consz, fzTs, fzLs, rg, rd, o, oz, kc, kb, ks, kx, on, og, od, ogd, A.run, evI, evOpt, evs, evP, argF, V.cs, binD, fzV, fzL, fzVs, dataVs, dataLs, V.data, L.data, unD, fillL, List.take_succ_cons, List.take_zero, List.drop_succ_cons, List.drop_zero, List.cons_append, ne_eq, Nat.reduceLT, Nat.reduceBEq, ↓reduceIte, Nat.reduceEqDiff, Nat.reduceAdd, Nat.reduceMul, Nat.reduceSub, Int.reduceToNat, Nat.reduceLeDiff, Int.reduceNeg, Int.reduceEq, Int.reduceLT, Int.reduceLE, Int.reduceBEq, Int.reduceBNe, Int.reduceToNat]; exact rfl) (by rfl) (by rfl) (by rfl))
    · simp only [gH]
      have w7 := hsl 7
      have l7 := num_len (sq t 7)
      have q7 := numI1 (sq t 7) (by omega)
      have hat := vq_nat t 6
      obtain ⟨m0, hm0⟩ : ∃ m, m = msg0 t := ⟨_, rfl⟩
      by_cases k1 : vq t 0 = 1
      · have l8 := num_len (num (sq t 7)).2
        have l9 := num_len (num (num (sq t 7)).2).2
        have q8 := numI1 (num (sq t 7)).2 (by omega)
        have q9 := numI1 (num (num (sq t 7)).2).2 (by omega)
        have hpar : parseW t = (⟨vq t 0, vq t 1, vq t 2, vq t 3, vq t 4, vq t 5, vq t 6, (num (sq t 7)).1, 0, (num (num (sq t 7)).2).1, (num (num (num (sq t 7)).2).2).1, 0, 0, [], []⟩, (num (num (num (sq t 7)).2).2).2) := by unfold parseW; rw [if_pos k1]; rfl
        generalize (num (num (num (sq t 7)).2).2).2 = tN at hpar q9
        generalize (num (num (num (sq t 7)).2).2).1 = v9 at hpar q9
        generalize hg8 : (num (num (sq t 7)).2).2 = t9 at q8 q9
        generalize (num (num (sq t 7)).2).1 = v8 at hpar q8
        generalize hg7 : (num (sq t 7)).2 = t8 at q7 q8
        generalize (num (sq t 7)).1 = v7 at hpar q7
        have hr := right16_spec ⟨vq t 0, vq t 1, vq t 2, vq t 3, vq t 4, vq t 5, vq t 6, v7, 0, v8, v9, 0, 0, [], []⟩ (by simp) (fun r hr => by cases hr) ⟨by unfold natI at hat; simp only []; omega, hat.2⟩
        simp only [msgL, List.map_nil] at hr
        rw [hpar] at hW
        obtain ⟨sN, bN⟩ := tN
        cases bN with
        | true =>
          have e9 : finM (⟨vq t 0, vq t 1, vq t 2, vq t 3, vq t 4, vq t 5, vq t 6, v7, 0, v8, v9, 0, 0, [], []⟩, (sN, true)) = (zmsg, 3) := by simp [finM]
          rw [e9] at hW
          (simp (disch := first | decide | omega | (intros; exact Eq.trans rfl rfl) | (simp only [puri]; done)) only [a11_0, (eq_true k1), q7, q8, q9, vis, visL, visB, fillR, rowsAt, toDs, toD, ↓ops_cons, ↓ops_consz, fzTs, fzLs, rg, rd, o, oz, kc, kb, ks, kx, on, og, od, ogd, A.run, evI, evOpt, evs, evP, argF, V.cs, binD, fzV, fzL, fzVs, dataVs, dataLs, V.data, L.data, unD, fillL, List.take_succ_cons, List.take_zero, List.drop_succ_cons, List.drop_zero, List.cons_append, ne_eq, Nat.reduceLT, Nat.reduceBEq, ↓reduceIte, Nat.reduceEqDiff, Nat.reduceAdd, Nat.reduceMul, Nat.reduceSub, Int.reduceToNat, Nat.reduceLeDiff, Int.reduceNeg, Int.reduceEq, Int.reduceLT, Int.reduceLE, Int.reduceBEq, Int.reduceBNe, Int.reduceToNat, dis])
          rw [hW]
          try simp [trim, getV, msgL, zmsg]
        | false =>
          by_cases z : sN = []
          · subst z
            have hz : (([] : List UInt8) != []) = false := by decide
            cases hy : rightM ⟨vq t 0, vq t 1, vq t 2, vq t 3, vq t 4, vq t 5, vq t 6, v7, 0, v8, v9, 0, 0, [], []⟩ with
            | false =>
              rw [hy] at hr
              have e9 : finM (⟨vq t 0, vq t 1, vq t 2, vq t 3, vq t 4, vq t 5, vq t 6, v7, 0, v8, v9, 0, 0, [], []⟩, ([], false)) = (zmsg, 3) := by simp [finM, hy]
              rw [e9] at hW
              (simp (disch := first | decide | omega | (intros; exact Eq.trans rfl rfl) | (simp only [puri]; done)) only [a11_0, (eq_true k1), q7, q8, q9, hr, hz, vis, visL, visB, fillR, rowsAt, toDs, toD, ↓ops_cons, ↓ops_consz, fzTs, fzLs, rg, rd, o, oz, kc, kb, ks, kx, on, og, od, ogd, A.run, evI, evOpt, evs, evP, argF, V.cs, binD, fzV, fzL, fzVs, dataVs, dataLs, V.data, L.data, unD, fillL, List.take_succ_cons, List.take_zero, List.drop_succ_cons, List.drop_zero, List.cons_append, ne_eq, Nat.reduceLT, Nat.reduceBEq, ↓reduceIte, Nat.reduceEqDiff, Nat.reduceAdd, Nat.reduceMul, Nat.reduceSub, Int.reduceToNat, Nat.reduceLeDiff, Int.reduceNeg, Int.reduceEq, Int.reduceLT, Int.reduceLE, Int.reduceBEq, Int.reduceBNe, Int.reduceToNat, dis])
              rw [hW]
              try simp [trim, getV, msgL, zmsg]
            | true =>
              rw [hy] at hr
              have e9 : finM (⟨vq t 0, vq t 1, vq t 2, vq t 3, vq t 4, vq t 5, vq t 6, v7, 0, v8, v9, 0, 0, [], []⟩, ([], false)) = (⟨vq t 0, vq t 1, vq t 2, vq t 3, vq t 4, vq t 5, vq t 6, v7, 0, v8, v9, 0, 0, [], []⟩, 0) := by simp [finM, hy]
              rw [e9] at hW
              (simp (disch := first | decide | omega | (intros; exact Eq.trans rfl rfl) | (simp only [puri]; done)) only [a11_0, (eq_true k1), q7, q8, q9, hr, hz, vis, visL, visB, fillR, rowsAt, toDs, toD, ↓ops_cons, ↓ops_consz, fzTs, fzLs, rg, rd, o, oz, kc, kb, ks, kx, on, og, od, ogd, A.run, evI, evOpt, evs, evP, argF, V.cs, binD, fzV, fzL, fzVs, dataVs, dataLs, V.data, L.data, unD, fillL, List.take_succ_cons, List.take_zero, List.drop_succ_cons, List.drop_zero, List.cons_append, ne_eq, Nat.reduceLT, Nat.reduceBEq, ↓reduceIte, Nat.reduceEqDiff, Nat.reduceAdd, Nat.reduceMul, Nat.reduceSub, Int.reduceToNat, Nat.reduceLeDiff, Int.reduceNeg, Int.reduceEq, Int.reduceLT, Int.reduceLE, Int.reduceBEq, Int.reduceBNe, Int.reduceToNat, dis])
              rw [hW]
              try simp [trim, getV, msgL]
          · obtain ⟨x0, xs0, rfl⟩ := List.exists_cons_of_ne_nil z
            have hz : ((x0 :: xs0) == ([] : List UInt8)) = false := Eq.trans rfl rfl
            have e9 : finM (⟨vq t 0, vq t 1, vq t 2, vq t 3, vq t 4, vq t 5, vq t 6, v7, 0, v8, v9, 0, 0, [], []⟩, (x0 :: xs0, false)) = (zmsg, 3) := by simp [finM]
            rw [e9] at hW
            (simp (disch := first | decide | omega | (intros; exact Eq.trans rfl rfl) | (simp only [puri]; done)) only [a11_0, (eq_true k1), q7, q8, q9, hz, vis, visL, visB, fillR, rowsAt, toDs, toD, ↓ops_cons, ↓ops_consz, fzTs, fzLs, rg, rd, o, oz, kc, kb, ks, kx, on, og, od, ogd, A.run, evI, evOpt, evs, evP, argF, V.cs, binD, fzV, fzL, fzVs, dataVs, dataLs, V.data, L.data, unD, fillL, List.take_succ_cons, List.take_zero, List.drop_succ_cons, List.drop_zero, List.cons_append, ne_eq, Nat.reduceLT, Nat.reduceBEq, ↓reduceIte, Nat.reduceEqDiff, Nat.reduceAdd, Nat.reduceMul, Nat.reduceSub, Int.reduceToNat, Nat.reduceLeDiff, Int.reduceNeg, Int.reduceEq, Int.reduceLT, Int.reduceLE, Int.reduceBEq, Int.reduceBNe, Int.reduceToNat, dis])
            rw [hW]
            try simp [trim, getV, msgL, zmsg]
      · by_cases k2 : vq t 0 = 2
        · have q8 := recsI1 (num (sq t 7)).2 (vq t 6) (by omega)
          have hal := recsR_all (vq t 6) (num (sq t 7)).2 (by omega)
          have hpar : parseW t = (⟨vq t 0, vq t 1, vq t 2, vq t 3, vq t 4, vq t 5, vq t 6, 0, (num (sq t 7)).1, 0, 0, 0, 0, [], (recsR (vq t 6) (num (sq t 7)).2).1⟩, (recsR (vq t 6) (num (sq t 7)).2).2) := by unfold parseW; rw [if_neg k1, if_pos k2]; rfl
          generalize (recsR (vq t 6) (num (sq t 7)).2).2 = tN at hpar q8
          generalize (recsR (vq t 6) (num (sq t 7)).2).1 = rs at hpar q8 hal
          generalize hg7 : (num (sq t 7)).2 = t8 at q7 q8
          generalize (num (sq t 7)).1 = v7 at hpar q7
          have hr := right16_spec ⟨vq t 0, vq t 1, vq t 2, vq t 3, vq t 4, vq t 5, vq t 6, 0, v7, 0, 0, 0, 0, [], rs⟩ (by simp only []; omega) hal.2 ⟨by unfold natI at hat; simp only []; omega, hat.2⟩
          simp only [msgL, List.map_nil] at hr
          rw [hpar] at hW
          obtain ⟨sN, bN⟩ := tN
          cases bN with
          | true =>
            have e9 : finM (⟨vq t 0, vq t 1, vq t 2, vq t 3, vq t 4, vq t 5, vq t 6, 0, v7, 0, 0, 0, 0, [], rs⟩, (sN, true)) = (zmsg, 3) := by simp [finM]
            rw [e9] at hW
            (simp (disch := first | decide | omega | (intros; exact Eq.trans rfl rfl) | (simp only [puri]; done)) only [a11_0, k1, (eq_true k2), q7, q8, vis, visL, visB, fillR, rowsAt, toDs, toD, ↓ops_cons, ↓ops_consz, fzTs, fzLs, rg, rd, o, oz, kc, kb, ks, kx, on, og, od, ogd, A.run, evI, evOpt, evs, evP, argF, V.cs, binD, fzV, fzL, fzVs, dataVs, dataLs, V.data, L.data, unD, fillL, List.take_succ_cons, List.take_zero, List.drop_succ_cons, List.drop_zero, List.cons_append, ne_eq, Nat.reduceLT, Nat.reduceBEq, ↓reduceIte, Nat.reduceEqDiff, Nat.reduceAdd, Nat.reduceMul, Nat.reduceSub, Int.reduceToNat, Nat.reduceLeDiff, Int.reduceNeg, Int.reduceEq, Int.reduceLT, Int.reduceLE, Int.reduceBEq, Int.reduceBNe, Int.reduceToNat, dis])
            rw [hW]
            try simp [trim, getV, msgL, zmsg]
          | false =>
            by_cases z : sN = []
            · subst z
              have hz : (([] : List UInt8) != []) = false := by decide
              cases hy : rightM ⟨vq t 0, vq t 1, vq t 2, vq t 3, vq t 4, vq t 5, vq t 6, 0, v7, 0, 0, 0, 0, [], rs⟩ with
              | false =>
                rw [hy] at hr
                have e9 : finM (⟨vq t 0, vq t 1, vq t 2, vq t 3, vq t 4, vq t 5, vq t 6, 0, v7, 0, 0, 0, 0, [], rs⟩, ([], false)) = (zmsg, 3) := by simp [finM, hy]
                rw [e9] at hW
                (simp (disch := first | decide | omega | (intros; exact Eq.trans rfl rfl) | (simp only [puri]; done)) only [a11_0, k1, (eq_true k2), q7, q8, hr, hz, vis, visL, visB, fillR, rowsAt, toDs, toD, ↓ops_cons, ↓ops_consz, fzTs, fzLs, rg, rd, o, oz, kc, kb, ks, kx, on, og, od, ogd, A.run, evI, evOpt, evs, evP, argF, V.cs, binD, fzV, fzL, fzVs, dataVs, dataLs, V.data, L.data, unD, fillL, List.take_succ_cons, List.take_zero, List.drop_succ_cons, List.drop_zero, List.cons_append, ne_eq, Nat.reduceLT, Nat.reduceBEq, ↓reduceIte, Nat.reduceEqDiff, Nat.reduceAdd, Nat.reduceMul, Nat.reduceSub, Int.reduceToNat, Nat.reduceLeDiff, Int.reduceNeg, Int.reduceEq, Int.reduceLT, Int.reduceLE, Int.reduceBEq, Int.reduceBNe, Int.reduceToNat, dis])
                rw [hW]
                try simp [trim, getV, msgL, zmsg]
              | true =>
                rw [hy] at hr
                have e9 : finM (⟨vq t 0, vq t 1, vq t 2, vq t 3, vq t 4, vq t 5, vq t 6, 0, v7, 0, 0, 0, 0, [], rs⟩, ([], false)) = (⟨vq t 0, vq t 1, vq t 2, vq t 3, vq t 4, vq t 5, vq t 6, 0, v7, 0, 0, 0, 0, [], rs⟩, 0) := by simp [finM, hy]
                rw [e9] at hW
                (simp (disch := first | decide | omega | (intros; exact Eq.trans rfl rfl) | (simp only [puri]; done)) only [a11_0, k1, (eq_true k2), q7, q8, hr, hz, vis, visL, visB, fillR, rowsAt, toDs, toD, ↓ops_cons, ↓ops_consz, fzTs, fzLs, rg, rd, o, oz, kc, kb, ks, kx, on, og, od, ogd, A.run, evI, evOpt, evs, evP, argF, V.cs, binD, fzV, fzL, fzVs, dataVs, dataLs, V.data, L.data, unD, fillL, List.take_succ_cons, List.take_zero, List.drop_succ_cons, List.drop_zero, List.cons_append, ne_eq, Nat.reduceLT, Nat.reduceBEq, ↓reduceIte, Nat.reduceEqDiff, Nat.reduceAdd, Nat.reduceMul, Nat.reduceSub, Int.reduceToNat, Nat.reduceLeDiff, Int.reduceNeg, Int.reduceEq, Int.reduceLT, Int.reduceLE, Int.reduceBEq, Int.reduceBNe, Int.reduceToNat, dis])
                rw [hW]
                try simp [trim, getV, msgL]
            · obtain ⟨x0, xs0, rfl⟩ := List.exists_cons_of_ne_nil z
              have hz : ((x0 :: xs0) == ([] : List UInt8)) = false := Eq.trans rfl rfl
              have e9 : finM (⟨vq t 0, vq t 1, vq t 2, vq t 3, vq t 4, vq t 5, vq t 6, 0, v7, 0, 0, 0, 0, [], rs⟩, (x0 :: xs0, false)) = (zmsg, 3) := by simp [finM]
              rw [e9] at hW
              (simp (disch := first | decide | omega | (intros; exact Eq.trans rfl rfl) | (simp only [puri]; done)) only [a11_0, k1, (eq_true k2), q7, q8, hz, vis, visL, visB, fillR, rowsAt, toDs, toD, ↓ops_cons, ↓ops_consz, fzTs, fzLs, rg, rd, o, oz, kc, kb, ks, kx, on, og, od, ogd, A.run, evI, evOpt, evs, evP, argF, V.cs, binD, fzV, fzL, fzVs, dataVs, dataLs, V.data, L.data, unD, fillL, List.take_succ_cons, List.take_zero, List.drop_succ_cons, List.drop_zero, List.cons_append, ne_eq, Nat.reduceLT, Nat.reduceBEq, ↓reduceIte, Nat.reduceEqDiff, Nat.reduceAdd, Nat.reduceMul, Nat.reduceSub, Int.reduceToNat, Nat.reduceLeDiff, Int.reduceNeg, Int.reduceEq, Int.reduceLT, Int.reduceLE, Int.reduceBEq, Int.reduceBNe, Int.reduceToNat, dis])
              rw [hW]
              try simp [trim, getV, msgL, zmsg]
        · by_cases k3 : vq t 0 = 3
          · have l8 := num_len (num (sq t 7)).2
            have q8 := numI1 (num (sq t 7)).2 (by omega)
            have q9 := fourI1 (num (num (sq t 7)).2).2 (by omega)
            have hpar : parseW t = (⟨vq t 0, vq t 1, vq t 2, vq t 3, vq t 4, vq t 5, vq t 6, 0, 0, 0, (num (num (sq t 7)).2).1, (num (sq t 7)).1, ((le4 (txt 4 (num (num (sq t 7)).2).2).1 : Nat) : Int), (txt 4 (num (num (sq t 7)).2).2).2.1, []⟩, ([], (txt 4 (num (num (sq t 7)).2).2).2.2)) := by unfold parseW; rw [if_neg k1, if_neg k2, if_pos k3]; rfl
            generalize ((le4 (txt 4 (num (num (sq t 7)).2).2).1 : Nat) : Int) = su at hpar q9
            generalize (txt 4 (num (num (sq t 7)).2).2).2 = tM at hpar q9
            generalize hg8 : (num (num (sq t 7)).2).2 = t9 at q8 q9
            generalize (num (num (sq t 7)).2).1 = v8 at hpar q8
            generalize hg7 : (num (sq t 7)).2 = t8 at q7 q8
            generalize (num (sq t 7)).1 = v7 at hpar q7
            obtain ⟨da, bM⟩ := tM
            simp only at hpar q9
            have hz : (([] : List UInt8) != []) = false := by decide
            have hr := right16_spec ⟨vq t 0, vq t 1, vq t 2, vq t 3, vq t 4, vq t 5, vq t 6, 0, 0, 0, v8, v7, su, da, []⟩ (by simp) (fun r hr => by cases hr) ⟨by unfold natI at hat; simp only []; omega, hat.2⟩
            simp only [msgL, List.map_nil] at hr
            rw [hpar] at hW
            cases bM with
            | true =>
              have e9 : finM (⟨vq t 0, vq t 1, vq t 2, vq t 3, vq t 4, vq t 5, vq t 6, 0, 0, 0, v8, v7, su, da, []⟩, ([], true)) = (zmsg, 3) := by simp [finM]
              rw [e9] at hW
              (simp (disch := first | decide | omega | (intros; exact Eq.trans rfl rfl) | (simp only [puri]; done)) only [a11_0, k1, k2, (eq_true k3), q7, q8, q9, vis, visL, visB, fillR, rowsAt, toDs, toD, ↓ops_cons, ↓ops_consz, fzTs, fzLs, rg, rd, o, oz, kc, kb, ks, kx, on, og, od, ogd, A.run, evI, evOpt, evs, evP, argF, V.cs, binD, fzV, fzL, fzVs, dataVs, dataLs, V.data, L.data, unD, fillL, List.take_succ_cons, List.take_zero, List.drop_succ_cons, List.drop_zero, List.cons_append, ne_eq, Nat.reduceLT, Nat.reduceBEq, ↓reduceIte, Nat.reduceEqDiff, Nat.reduceAdd, Nat.reduceMul, Nat.reduceSub, Int.reduceToNat, Nat.reduceLeDiff, Int.reduceNeg, Int.reduceEq, Int.reduceLT, Int.reduceLE, Int.reduceBEq, Int.reduceBNe, Int.reduceToNat, dis])
              rw [hW]
              try simp [trim, getV, msgL, zmsg]
            | false =>
              cases hy : rightM ⟨vq t 0, vq t 1, vq t 2, vq t 3, vq t 4, vq t 5, vq t 6, 0, 0, 0, v8, v7, su, da, []⟩ with
              | false =>
                rw [hy] at hr
                have e9 : finM (⟨vq t 0, vq t 1, vq t 2, vq t 3, vq t 4, vq t 5, vq t 6, 0, 0, 0, v8, v7, su, da, []⟩, ([], false)) = (zmsg, 3) := by simp [finM, hy]
                rw [e9] at hW
                (simp (disch := first | decide | omega | (intros; exact Eq.trans rfl rfl) | (simp only [puri]; done)) only [a11_0, k1, k2, (eq_true k3), q7, q8, q9, hr, hz, vis, visL, visB, fillR, rowsAt, toDs, toD, ↓ops_cons, ↓ops_consz, fzTs, fzLs, rg, rd, o, oz, kc, kb, ks, kx, on, og, od, ogd, A.run, evI, evOpt, evs, evP, argF, V.cs, binD, fzV, fzL, fzVs, dataVs, dataLs, V.data, L.data, unD, fillL, List.take_succ_cons, List.take_zero, List.drop_succ_cons, List.drop_zero, List.cons_append, ne_eq, Nat.reduceLT, Nat.reduceBEq, ↓reduceIte, Nat.reduceEqDiff, Nat.reduceAdd, Nat.reduceMul, Nat.reduceSub, Int.reduceToNat, Nat.reduceLeDiff, Int.reduceNeg, Int.reduceEq, Int.reduceLT, Int.reduceLE, Int.reduceBEq, Int.reduceBNe, Int.reduceToNat, dis])
                rw [hW]
                try simp [trim, getV, msgL, zmsg]
              | true =>
                rw [hy] at hr
                have e9 : finM (⟨vq t 0, vq t 1, vq t 2, vq t 3, vq t 4, vq t 5, vq t 6, 0, 0, 0, v8, v7, su, da, []⟩, ([], false)) = (⟨vq t 0, vq t 1, vq t 2, vq t 3, vq t 4, vq t 5, vq t 6, 0, 0, 0, v8, v7, su, da, []⟩, 0) := by simp [finM, hy]
                rw [e9] at hW
                (simp (disch := first | decide | omega | (intros; exact Eq.trans rfl rfl) | (simp only [puri]; done)) only [a11_0, k1, k2, (eq_true k3), q7, q8, q9, hr, hz, vis, visL, visB, fillR, rowsAt, toDs, toD, ↓ops_cons, ↓ops_consz, fzTs, fzLs, rg, rd, o, oz, kc, kb, ks, kx, on, og, od, ogd, A.run, evI, evOpt, evs, evP, argF, V.cs, binD, fzV, fzL, fzVs, dataVs, dataLs, V.data, L.data, unD, fillL, List.take_succ_cons, List.take_zero, List.drop_succ_cons, List.drop_zero, List.cons_append, ne_eq, Nat.reduceLT, Nat.reduceBEq, ↓reduceIte, Nat.reduceEqDiff, Nat.reduceAdd, Nat.reduceMul, Nat.reduceSub, Int.reduceToNat, Nat.reduceLeDiff, Int.reduceNeg, Int.reduceEq, Int.reduceLT, Int.reduceLE, Int.reduceBEq, Int.reduceBNe, Int.reduceToNat, dis])
                rw [hW]
                try simp [trim, getV, msgL]
          · have hpar : parseW t = (⟨vq t 0, vq t 1, vq t 2, vq t 3, vq t 4, vq t 5, vq t 6, 0, 0, 0, 0, 0, 0, [], []⟩, sq t 7) := by unfold parseW; rw [if_neg k1, if_neg k2, if_neg k3]; rfl
            generalize sq t 7 = tN at hpar
            have hr := right16_spec ⟨vq t 0, vq t 1, vq t 2, vq t 3, vq t 4, vq t 5, vq t 6, 0, 0, 0, 0, 0, 0, [], []⟩ (by simp) (fun r hr => by cases hr) ⟨by unfold natI at hat; simp only []; omega, hat.2⟩
            simp only [msgL, List.map_nil] at hr
            rw [hpar] at hW
            obtain ⟨sN, bN⟩ := tN
            cases bN with
            | true =>
              have e9 : finM (⟨vq t 0, vq t 1, vq t 2, vq t 3, vq t 4, vq t 5, vq t 6, 0, 0, 0, 0, 0, 0, [], []⟩, (sN, true)) = (zmsg, 3) := by simp [finM]
              rw [e9] at hW
              (simp (disch := first | decide | omega | (intros; exact Eq.trans rfl rfl) | (simp only [puri]; done)) only [a11_0, k1, k2, k3, vis, visL, visB, fillR, rowsAt, toDs, toD, ↓ops_cons, ↓ops_consz, fzTs, fzLs, rg, rd, o, oz, kc, kb, ks, kx, on, og, od, ogd, A.run, evI, evOpt, evs, evP, argF, V.cs, binD, fzV, fzL, fzVs, dataVs, dataLs, V.data, L.data, unD, fillL, List.take_succ_cons, List.take_zero, List.drop_succ_cons, List.drop_zero, List.cons_append, ne_eq, Nat.reduceLT, Nat.reduceBEq, ↓reduceIte, Nat.reduceEqDiff, Nat.reduceAdd, Nat.reduceMul, Nat.reduceSub, Int.reduceToNat, Nat.reduceLeDiff, Int.reduceNeg, Int.reduceEq, Int.reduceLT, Int.reduceLE, Int.reduceBEq, Int.reduceBNe, Int.reduceToNat, dis])
              rw [hW]
              try simp [trim, getV, msgL, zmsg]
            | false =>
              by_cases z : sN = []
              · subst z
                have hz : (([] : List UInt8) != []) = false := by decide
                cases hy : rightM ⟨vq t 0, vq t 1, vq t 2, vq t 3, vq t 4, vq t 5, vq t 6, 0, 0, 0, 0, 0, 0, [], []⟩ with
                | false =>
                  rw [hy] at hr
                  have e9 : finM (⟨vq t 0, vq t 1, vq t 2, vq t 3, vq t 4, vq t 5, vq t 6, 0, 0, 0, 0, 0, 0, [], []⟩, ([], false)) = (zmsg, 3) := by simp [finM, hy]
                  rw [e9] at hW
                  (simp (disch := first | decide | omega | (intros; exact Eq.trans rfl rfl) | (simp only [puri]; done)) only [a11_0, k1, k2, k3, hr, hz, vis, visL, visB, fillR, rowsAt, toDs, toD, ↓ops_cons, ↓ops_consz, fzTs, fzLs, rg, rd, o, oz, kc, kb, ks, kx, on, og, od, ogd, A.run, evI, evOpt, evs, evP, argF, V.cs, binD, fzV, fzL, fzVs, dataVs, dataLs, V.data, L.data, unD, fillL, List.take_succ_cons, List.take_zero, List.drop_succ_cons, List.drop_zero, List.cons_append, ne_eq, Nat.reduceLT, Nat.reduceBEq, ↓reduceIte, Nat.reduceEqDiff, Nat.reduceAdd, Nat.reduceMul, Nat.reduceSub, Int.reduceToNat, Nat.reduceLeDiff, Int.reduceNeg, Int.reduceEq, Int.reduceLT, Int.reduceLE, Int.reduceBEq, Int.reduceBNe, Int.reduceToNat, dis])
                  rw [hW]
                  try simp [trim, getV, msgL, zmsg]
                | true =>
                  rw [hy] at hr
                  have e9 : finM (⟨vq t 0, vq t 1, vq t 2, vq t 3, vq t 4, vq t 5, vq t 6, 0, 0, 0, 0, 0, 0, [], []⟩, ([], false)) = (⟨vq t 0, vq t 1, vq t 2, vq t 3, vq t 4, vq t 5, vq t 6, 0, 0, 0, 0, 0, 0, [], []⟩, 0) := by simp [finM, hy]
                  rw [e9] at hW
                  (simp (disch := first | decide | omega | (intros; exact Eq.trans rfl rfl) | (simp only [puri]; done)) only [a11_0, k1, k2, k3, hr, hz, vis, visL, visB, fillR, rowsAt, toDs, toD, ↓ops_cons, ↓ops_consz, fzTs, fzLs, rg, rd, o, oz, kc, kb, ks, kx, on, og, od, ogd, A.run, evI, evOpt, evs, evP, argF, V.cs, binD, fzV, fzL, fzVs, dataVs, dataLs, V.data, L.data, unD, fillL, List.take_succ_cons, List.take_zero, List.drop_succ_cons, List.drop_zero, List.cons_append, ne_eq, Nat.reduceLT, Nat.reduceBEq, ↓reduceIte, Nat.reduceEqDiff, Nat.reduceAdd, Nat.reduceMul, Nat.reduceSub, Int.reduceToNat, Nat.reduceLeDiff, Int.reduceNeg, Int.reduceEq, Int.reduceLT, Int.reduceLE, Int.reduceBEq, Int.reduceBNe, Int.reduceToNat, dis])
                  rw [hW]
                  try simp [trim, getV, msgL]
              · obtain ⟨x0, xs0, rfl⟩ := List.exists_cons_of_ne_nil z
                have hz : ((x0 :: xs0) == ([] : List UInt8)) = false := Eq.trans rfl rfl
                have e9 : finM (⟨vq t 0, vq t 1, vq t 2, vq t 3, vq t 4, vq t 5, vq t 6, 0, 0, 0, 0, 0, 0, [], []⟩, (x0 :: xs0, false)) = (zmsg, 3) := by simp [finM]
                rw [e9] at hW
                (simp (disch := first | decide | omega | (intros; exact Eq.trans rfl rfl) | (simp only [puri]; done)) only [a11_0, k1, k2, k3, hz, vis, visL, visB, fillR, rowsAt, toDs, toD, ↓ops_cons, ↓ops_consz, fzTs, fzLs, rg, rd, o, oz, kc, kb, ks, kx, on, og, od, ogd, A.run, evI, evOpt, evs, evP, argF, V.cs, binD, fzV, fzL, fzVs, dataVs, dataLs, V.data, L.data, unD, fillL, List.take_succ_cons, List.take_zero, List.drop_succ_cons, List.drop_zero, List.cons_append, ne_eq, Nat.reduceLT, Nat.reduceBEq, ↓reduceIte, Nat.reduceEqDiff, Nat.reduceAdd, Nat.reduceMul, Nat.reduceSub, Int.reduceToNat, Nat.reduceLeDiff, Int.reduceNeg, Int.reduceEq, Int.reduceLT, Int.reduceLE, Int.reduceBEq, Int.reduceBNe, Int.reduceToNat, dis])
                rw [hW]
                try simp [trim, getV, msgL, zmsg]
  · rw [if_neg c] at hW
    (simp (disch := first | decide | omega | (intros; exact Eq.trans rfl rfl) | (simp only [puri]; done)) only [a11, hn, c, vis, visL, visB, fillR, rowsAt, toDs, toD, ↓ops_cons, ↓ops_consz, fzTs, fzLs, rg, rd, o, oz, kc, kb, ks, kx, on, og, od, ogd, A.run, evI, evOpt, evs, evP, argF, V.cs, binD, fzV, fzL, fzVs, dataVs, dataLs, V.data, L.data, unD, fillL, List.take_succ_cons, List.take_zero, List.drop_succ_cons, List.drop_zero, List.cons_append, ne_eq, Nat.reduceLT, Nat.reduceBEq, ↓reduceIte, Nat.reduceEqDiff, Nat.reduceAdd, Nat.reduceMul, Nat.reduceSub, Int.reduceToNat, Nat.reduceLeDiff, Int.reduceNeg, Int.reduceEq, Int.reduceLT, Int.reduceLE, Int.reduceBEq, Int.reduceBNe, Int.reduceToNat, dis])
    rw [hW]
    try simp [trim, getV, msgL, zmsg]
end Go.Proofs.Ytogleebbifpijaa
