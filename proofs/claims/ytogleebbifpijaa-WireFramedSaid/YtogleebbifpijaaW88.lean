import Derived.Test.YtogleebbifpijaaW87
set_option linter.unusedSimpArgs false
set_option linter.unusedVariables false
namespace Go.Proofs.Ytogleebbifpijaa
open Go.Vi
set_option linter.unusedSimpArgs false

def smallM (m : Msg) : Bool := fewR m.recs 70 && decide (m.da.length ≤ 5000)
theorem small_spec (m : Msg) (hm : m.ok) : call 7 [.agg (msgL m)] [] = some (vb (smallM m), []) := by
  apply enterS s7 rfl
  have hf := few_spec m.recs 70 hm.h_recs hm.h_all
  have hd := hm.h_da
  unfold smallM
  cases c : fewR m.recs 70 with
  | false =>
    rw [c] at hf
    (simp (disch := first | decide | omega | (intros; exact Eq.trans rfl rfl) | (simp only [puri]; done)) only [a7, msgL, hf, vis, visL, visB, fillR, rowsAt, toDs, toD, ↓ops_cons, ↓ops_consz, fzTs, fzLs, rg, rd, o, oz, kc, kb, ks, kx, on, og, od, ogd, A.run, evI, evOpt, evs, evP, argF, V.cs, binD, fzV, fzL, fzVs, dataVs, dataLs, V.data, L.data, unD, fillL, List.take_succ_cons, List.take_zero, List.drop_succ_cons, List.drop_zero, List.cons_append, ne_eq, Nat.reduceLT, Nat.reduceBEq, ↓reduceIte, Nat.reduceEqDiff, Nat.reduceAdd, Nat.reduceMul, Nat.reduceSub, Int.reduceToNat, Nat.reduceLeDiff, Int.reduceNeg, Int.reduceEq, Int.reduceLT, Int.reduceLE, Int.reduceBEq, Int.reduceBNe, Int.reduceToNat, dis])
    try simp [trim]
  | true =>
    rw [c] at hf
    by_cases c2 : m.da.length ≤ 5000
    · (simp (disch := first | decide | omega | (intros; exact Eq.trans rfl rfl) | (simp only [puri]; done)) only [a7, msgL, hf, c2, vis, visL, visB, fillR, rowsAt, toDs, toD, ↓ops_cons, ↓ops_consz, fzTs, fzLs, rg, rd, o, oz, kc, kb, ks, kx, on, og, od, ogd, A.run, evI, evOpt, evs, evP, argF, V.cs, binD, fzV, fzL, fzVs, dataVs, dataLs, V.data, L.data, unD, fillL, List.take_succ_cons, List.take_zero, List.drop_succ_cons, List.drop_zero, List.cons_append, ne_eq, Nat.reduceLT, Nat.reduceBEq, ↓reduceIte, Nat.reduceEqDiff, Nat.reduceAdd, Nat.reduceMul, Nat.reduceSub, Int.reduceToNat, Nat.reduceLeDiff, Int.reduceNeg, Int.reduceEq, Int.reduceLT, Int.reduceLE, Int.reduceBEq, Int.reduceBNe, Int.reduceToNat, dis])
      try simp [trim, c2]
    · (simp (disch := first | decide | omega | (intros; exact Eq.trans rfl rfl) | (simp only [puri]; done)) only [a7, msgL, hf, c2, vis, visL, visB, fillR, rowsAt, toDs, toD, ↓ops_cons, ↓ops_consz, fzTs, fzLs, rg, rd, o, oz, kc, kb, ks, kx, on, og, od, ogd, A.run, evI, evOpt, evs, evP, argF, V.cs, binD, fzV, fzL, fzVs, dataVs, dataLs, V.data, L.data, unD, fillL, List.take_succ_cons, List.take_zero, List.drop_succ_cons, List.drop_zero, List.cons_append, ne_eq, Nat.reduceLT, Nat.reduceBEq, ↓reduceIte, Nat.reduceEqDiff, Nat.reduceAdd, Nat.reduceMul, Nat.reduceSub, Int.reduceToNat, Nat.reduceLeDiff, Int.reduceNeg, Int.reduceEq, Int.reduceLT, Int.reduceLE, Int.reduceBEq, Int.reduceBNe, Int.reduceToNat, dis])
      try simp [trim, c2]
theorem small_t {m : Msg} (h : smallM m = true) : m.recs.length ≤ 70 ∧ m.da.length ≤ 5000 := by
  simp only [smallM, fewR, Bool.and_eq_true, decide_eq_true_eq] at h
  omega
def am : Msg := ⟨1, 1, 0, 1, 0, 1, 0, 100, 0, 0, 0, 0, 0, [], []⟩
theorem am_ok : am.ok := by
  constructor <;> first | decide | (intro r hr; cases hr) | (unfold i64ok; decide)
theorem am_right : rightM am = true := by decide
theorem am_len : (bodyM am).length = 10 := by
  have e : bodyM am = enc128 1 ++ (enc128 1 ++ (enc128 0 ++ (enc128 1 ++ (enc128 0 ++ (enc128 1 ++ (enc128 0 ++ (enc128 100 ++ (enc128 0 ++ (enc128 0 ++ []))))))))) := by simp [bodyM, tailBy, headNs, numsB, am]
  rw [e, enc_small (by decide), enc_small (by decide), enc_small (by decide)]
  rfl
set_option maxRecDepth 8000 in
theorem wAwake_spec : call 8 [] [] = some (vb true, []) := by
  apply enterS s8 rfl
  have hp := put16_spec am am_ok (by decide) (by decide)
  unfold putM putV at hp
  rw [if_pos am_right, if_pos (by rw [am_len]; decide)] at hp
  have hl : (frameF (bodyM am)).length = 15 := by rw [frameF_len, am_len, nd_small (by decide)]
  have hg := get16_spec (frameF (bodyM am)) (by rw [hl]; decide)
  rw [get_back am am_right (by decide) (by rw [am_len]; decide)] at hg
  have hs := same16_spec am am (by decide) (by decide)
  rw [decide_eq_true rfl] at hs
  generalize frameF (bodyM am) = w at hp hl hg
  have h15 : ((15 : Nat) : Int) = 15 := rfl
  simp only [msgL, am, List.map_nil, getV] at hp hg hs
  (simp (disch := first | decide | omega | (intros; exact Eq.trans rfl rfl) | (simp only [puri]; done)) only [a8, hp, hg, hs, hl, h15, vis, visL, visB, fillR, rowsAt, toDs, toD, ↓ops_cons, ↓ops_consz, fzTs, fzLs, rg, rd, o, oz, kc, kb, ks, kx, on, og, od, ogd, A.run, evI, evOpt, evs, evP, argF, V.cs, binD, fzV, fzL, fzVs, dataVs, dataLs, V.data, L.data, unD, fillL, List.take_succ_cons, List.take_zero, List.drop_succ_cons, List.drop_zero, List.cons_append, ne_eq, Nat.reduceLT, Nat.reduceBEq, ↓reduceIte, Nat.reduceEqDiff, Nat.reduceAdd, Nat.reduceMul, Nat.reduceSub, Int.reduceToNat, Nat.reduceLeDiff, Int.reduceNeg, Int.reduceEq, Int.reduceLT, Int.reduceLE, Int.reduceBEq, Int.reduceBNe, Int.reduceToNat, dis])
  try simp [trim]
end Go.Proofs.Ytogleebbifpijaa
