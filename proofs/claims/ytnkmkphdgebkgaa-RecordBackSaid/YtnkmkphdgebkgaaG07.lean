import Derived.Test.YtnkmkphdgebkgaaG06
import Derived.Test.YtnkmkphdgebkgaaVib
set_option linter.unusedSimpArgs false
set_option linter.unusedVariables false
namespace Go.Proofs.Ytnkmkphdgebkgaa
open Go.Vi
set_option linter.unusedSimpArgs false

theorem fits_spec (n : Int) : call 38 [vi n] [] = some (vb (decide (1 ≤ n) && decide (n ≤ 65536)), []) := by
  apply enterS s38 rfl
  by_cases c : 1 ≤ n
  · (simp (disch := first | decide | omega | (intros; exact Eq.trans rfl rfl) | (simp only [puri]; done)) only [a38, c, vis, visL, visB, fillR, rowsAt, toDs, toD, ↓ops_cons, ↓ops_consz, fzTs, fzLs, rg, rd, o, oz, kc, kb, ks, kx, on, og, od, ogd, A.run, evI, evOpt, evs, evP, argF, V.cs, binD, fzV, fzL, fzVs, dataVs, dataLs, V.data, L.data, unD, fillL, List.take_succ_cons, List.take_zero, List.drop_succ_cons, List.drop_zero, List.cons_append, ne_eq, Nat.reduceLT, Nat.reduceBEq, ↓reduceIte, Nat.reduceEqDiff, Nat.reduceAdd, Nat.reduceMul, Nat.reduceSub, Int.reduceToNat, Nat.reduceLeDiff, Int.reduceNeg, Int.reduceEq, Int.reduceLT, Int.reduceLE, Int.reduceBEq, Int.reduceBNe, Int.reduceToNat, dis])
  · (simp (disch := first | decide | omega | (intros; exact Eq.trans rfl rfl) | (simp only [puri]; done)) only [a38, c, Bool.false_and, vis, visL, visB, fillR, rowsAt, toDs, toD, ↓ops_cons, ↓ops_consz, fzTs, fzLs, rg, rd, o, oz, kc, kb, ks, kx, on, og, od, ogd, A.run, evI, evOpt, evs, evP, argF, V.cs, binD, fzV, fzL, fzVs, dataVs, dataLs, V.data, L.data, unD, fillL, List.take_succ_cons, List.take_zero, List.drop_succ_cons, List.drop_zero, List.cons_append, ne_eq, Nat.reduceLT, Nat.reduceBEq, ↓reduceIte, Nat.reduceEqDiff, Nat.reduceAdd, Nat.reduceMul, Nat.reduceSub, Int.reduceToNat, Nat.reduceLeDiff, Int.reduceNeg, Int.reduceEq, Int.reduceLT, Int.reduceLE, Int.reduceBEq, Int.reduceBNe, Int.reduceToNat, dis])
theorem size_spec (n : Int) : call 33 [vi n] [] = some (vi (sizeF n), []) := by
  apply enterS s33 rfl
  have hf := fits_spec n
  by_cases c : 1 ≤ n ∧ n ≤ 65536
  · rw [decide_eq_true c.1, decide_eq_true c.2] at hf
    obtain ⟨k, rfl⟩ : ∃ k : Nat, n = k := ⟨n.toNat, by omega⟩
    have hl := len_spec k (by omega)
    have h9 := nd_le9 (n := k) (by omega)
    unfold sizeF
    rw [if_pos c, Int.toNat_natCast]
    (simp (disch := first | decide | omega | (intros; exact Eq.trans rfl rfl) | (simp only [puri]; done)) only [a33, hf, hl, vis, visL, visB, fillR, rowsAt, toDs, toD, ↓ops_cons, ↓ops_consz, fzTs, fzLs, rg, rd, o, oz, kc, kb, ks, kx, on, og, od, ogd, A.run, evI, evOpt, evs, evP, argF, V.cs, binD, fzV, fzL, fzVs, dataVs, dataLs, V.data, L.data, unD, fillL, List.take_succ_cons, List.take_zero, List.drop_succ_cons, List.drop_zero, List.cons_append, ne_eq, Nat.reduceLT, Nat.reduceBEq, ↓reduceIte, Nat.reduceEqDiff, Nat.reduceAdd, Nat.reduceMul, Nat.reduceSub, Int.reduceToNat, Nat.reduceLeDiff, Int.reduceNeg, Int.reduceEq, Int.reduceLT, Int.reduceLE, Int.reduceBEq, Int.reduceBNe, Int.reduceToNat, dis])
  · have hf' : (decide (1 ≤ n) && decide (n ≤ 65536)) = false := by rw [Bool.and_eq_false_iff, decide_eq_false_iff_not, decide_eq_false_iff_not]; omega
    rw [hf'] at hf
    unfold sizeF
    rw [if_neg c]
    (simp (disch := first | decide | omega | (intros; exact Eq.trans rfl rfl) | (simp only [puri]; done)) only [a33, hf, vis, visL, visB, fillR, rowsAt, toDs, toD, ↓ops_cons, ↓ops_consz, fzTs, fzLs, rg, rd, o, oz, kc, kb, ks, kx, on, og, od, ogd, A.run, evI, evOpt, evs, evP, argF, V.cs, binD, fzV, fzL, fzVs, dataVs, dataLs, V.data, L.data, unD, fillL, List.take_succ_cons, List.take_zero, List.drop_succ_cons, List.drop_zero, List.cons_append, ne_eq, Nat.reduceLT, Nat.reduceBEq, ↓reduceIte, Nat.reduceEqDiff, Nat.reduceAdd, Nat.reduceMul, Nat.reduceSub, Int.reduceToNat, Nat.reduceLeDiff, Int.reduceNeg, Int.reduceEq, Int.reduceLT, Int.reduceLE, Int.reduceBEq, Int.reduceBNe, Int.reduceToNat, dis])
def putV (b : List UInt8) : V := if 1 ≤ b.length ∧ b.length ≤ 65536 then .tup [(false, [.d (.s (frameF b))]), (false, [.d (.i .i64 0)])] else .tup [(false, [.d (.s [])]), (false, [.d (.i .i64 5)])]
theorem crc2_spec (a b : List UInt8) (ha : a.length ≤ 9223372036854775807) (hb : b.length ≤ 9223372036854775807) : call 40 [vl [[.s a], [.s b]]] [] = some (vk .u32 (((crcOn 0#32 (a ++ b)).toNat : Nat) : Int), []) := by
  have := sum_spec [a, b] (by simp) (by intro s hs; simp at hs; rcases hs with rfl | rfl <;> assumption)
  rw [crcSum2] at this
  exact this
theorem putFrame_spec (b : List UInt8) (hb : b.length ≤ 9223372036854775807) : call 26 [vs b] [] = some (putV b, []) := by
  apply enterS s26 rfl
  have hf := fits_spec b.length
  unfold putV
  by_cases c : 1 ≤ b.length ∧ b.length ≤ 65536
  · have e1 : decide (1 ≤ (b.length : Int)) = true := by simp; omega
    have e2 : decide ((b.length : Int) ≤ 65536) = true := by simp; omega
    rw [e1, e2] at hf
    have hp := put_spec b.length (by omega)
    have hel : (enc128 b.length).length ≤ 9 := nd_le9 (n := b.length) (by omega)
    have hs := crc2_spec (enc128 b.length) b (by omega) hb
    have h4 := four_spec (crcOn 0#32 (enc128 b.length ++ b))
    have l4 := four_len (crcOn 0#32 (enc128 b.length ++ b))
    rw [if_pos c]
    (simp (disch := first | decide | omega | (intros; exact Eq.trans rfl rfl) | (simp only [puri]; done)) only [a26, hf, hp, hs, h4, l4, frameF, vis, visL, visB, fillR, rowsAt, toDs, toD, ↓ops_cons, ↓ops_consz, fzTs, fzLs, rg, rd, o, oz, kc, kb, ks, kx, on, og, od, ogd, A.run, evI, evOpt, evs, evP, argF, V.cs, binD, fzV, fzL, fzVs, dataVs, dataLs, V.data, L.data, unD, fillL, List.take_succ_cons, List.take_zero, List.drop_succ_cons, List.drop_zero, List.cons_append, ne_eq, Nat.reduceLT, Nat.reduceBEq, ↓reduceIte, Nat.reduceEqDiff, Nat.reduceAdd, Nat.reduceMul, Nat.reduceSub, Int.reduceToNat, Nat.reduceLeDiff, Int.reduceNeg, Int.reduceEq, Int.reduceLT, Int.reduceLE, Int.reduceBEq, Int.reduceBNe, Int.reduceToNat, dis])
  · have hf' : (decide (1 ≤ (b.length : Int)) && decide ((b.length : Int) ≤ 65536)) = false := by rw [Bool.and_eq_false_iff, decide_eq_false_iff_not, decide_eq_false_iff_not]; omega
    rw [hf'] at hf
    rw [if_neg c]
    (simp (disch := first | decide | omega | (intros; exact Eq.trans rfl rfl) | (simp only [puri]; done)) only [a26, hf, vis, visL, visB, fillR, rowsAt, toDs, toD, ↓ops_cons, ↓ops_consz, fzTs, fzLs, rg, rd, o, oz, kc, kb, ks, kx, on, og, od, ogd, A.run, evI, evOpt, evs, evP, argF, V.cs, binD, fzV, fzL, fzVs, dataVs, dataLs, V.data, L.data, unD, fillL, List.take_succ_cons, List.take_zero, List.drop_succ_cons, List.drop_zero, List.cons_append, ne_eq, Nat.reduceLT, Nat.reduceBEq, ↓reduceIte, Nat.reduceEqDiff, Nat.reduceAdd, Nat.reduceMul, Nat.reduceSub, Int.reduceToNat, Nat.reduceLeDiff, Int.reduceNeg, Int.reduceEq, Int.reduceLT, Int.reduceLE, Int.reduceBEq, Int.reduceBNe, Int.reduceToNat, dis])
theorem refPutFrame_spec (b : List UInt8) (hb : b.length ≤ 9223372036854775807) : call 29 [vs b] [] = some (putV b, []) := by
  apply enterS s29 rfl
  unfold putV
  by_cases c : 1 ≤ b.length
  · by_cases c2 : b.length ≤ 65536
    · have hp := refPut_spec b.length (by omega)
      have hel : (enc128 b.length).length ≤ 9 := nd_le9 (n := b.length) (by omega)
      have hs := refOf_spec (enc128 b.length ++ b) (by simp; omega)
      have h4 := refFour_spec (crcOn 0#32 (enc128 b.length ++ b))
      have l4 := four_len (crcOn 0#32 (enc128 b.length ++ b))
      rw [if_pos ⟨c, c2⟩]
      (simp (disch := first | decide | omega | (intros; exact Eq.trans rfl rfl) | (simp only [puri]; done)) only [a29, hp, hs, h4, l4, frameF, vis, visL, visB, fillR, rowsAt, toDs, toD, ↓ops_cons, ↓ops_consz, fzTs, fzLs, rg, rd, o, oz, kc, kb, ks, kx, on, og, od, ogd, A.run, evI, evOpt, evs, evP, argF, V.cs, binD, fzV, fzL, fzVs, dataVs, dataLs, V.data, L.data, unD, fillL, List.take_succ_cons, List.take_zero, List.drop_succ_cons, List.drop_zero, List.cons_append, ne_eq, Nat.reduceLT, Nat.reduceBEq, ↓reduceIte, Nat.reduceEqDiff, Nat.reduceAdd, Nat.reduceMul, Nat.reduceSub, Int.reduceToNat, Nat.reduceLeDiff, Int.reduceNeg, Int.reduceEq, Int.reduceLT, Int.reduceLE, Int.reduceBEq, Int.reduceBNe, Int.reduceToNat, dis])
    · rw [if_neg (by omega)]
      (simp (disch := first | decide | omega | (intros; exact Eq.trans rfl rfl) | (simp only [puri]; done)) only [a29, vis, visL, visB, fillR, rowsAt, toDs, toD, ↓ops_cons, ↓ops_consz, fzTs, fzLs, rg, rd, o, oz, kc, kb, ks, kx, on, og, od, ogd, A.run, evI, evOpt, evs, evP, argF, V.cs, binD, fzV, fzL, fzVs, dataVs, dataLs, V.data, L.data, unD, fillL, List.take_succ_cons, List.take_zero, List.drop_succ_cons, List.drop_zero, List.cons_append, ne_eq, Nat.reduceLT, Nat.reduceBEq, ↓reduceIte, Nat.reduceEqDiff, Nat.reduceAdd, Nat.reduceMul, Nat.reduceSub, Int.reduceToNat, Nat.reduceLeDiff, Int.reduceNeg, Int.reduceEq, Int.reduceLT, Int.reduceLE, Int.reduceBEq, Int.reduceBNe, Int.reduceToNat, dis])
  · rw [if_neg (by omega)]
    (simp (disch := first | decide | omega | (intros; exact Eq.trans rfl rfl) | (simp only [puri]; done)) only [a29, vis, visL, visB, fillR, rowsAt, toDs, toD, ↓ops_cons, ↓ops_consz, fzTs, fzLs, rg, rd, o, oz, kc, kb, ks, kx, on, og, od, ogd, A.run, evI, evOpt, evs, evP, argF, V.cs, binD, fzV, fzL, fzVs, dataVs, dataLs, V.data, L.data, unD, fillL, List.take_succ_cons, List.take_zero, List.drop_succ_cons, List.drop_zero, List.cons_append, ne_eq, Nat.reduceLT, Nat.reduceBEq, ↓reduceIte, Nat.reduceEqDiff, Nat.reduceAdd, Nat.reduceMul, Nat.reduceSub, Int.reduceToNat, Nat.reduceLeDiff, Int.reduceNeg, Int.reduceEq, Int.reduceLT, Int.reduceLE, Int.reduceBEq, Int.reduceBNe, Int.reduceToNat, dis])

theorem open_spec (l : List UInt8) (hl : l.length ≤ 9223372036854775807) : call 45 [vs l] [] = some (vb (openF l), []) := by
  apply enterS s45 rfl
  by_cases c : l.length ≤ 8
  · have e : openF l = (l.drop 0).all fun c => decide (128 ≤ c.toNat) := by simp [openF, c]
    rw [e]
    (simp (disch := first | decide | omega | (intros; exact Eq.trans rfl rfl) | (simp only [puri]; done)) only [a45, vis, visL, visB, fillR, rowsAt, toDs, toD, ↓ops_cons, ↓ops_consz, fzTs, fzLs, rg, rd, o, oz, kc, kb, ks, kx, on, og, od, ogd, A.run, evI, evOpt, evs, evP, argF, V.cs, binD, fzV, fzL, fzVs, dataVs, dataLs, V.data, L.data, unD, fillL, List.take_succ_cons, List.take_zero, List.drop_succ_cons, List.drop_zero, List.cons_append, ne_eq, Nat.reduceLT, Nat.reduceBEq, ↓reduceIte, Nat.reduceEqDiff, Nat.reduceAdd, Nat.reduceMul, Nat.reduceSub, Int.reduceToNat, Nat.reduceLeDiff, Int.reduceNeg, Int.reduceEq, Int.reduceLT, Int.reduceLE, Int.reduceBEq, Int.reduceBNe, Int.reduceToNat, dis])
    refine loop_data (σ := Nat) (fun k => l.length - k) (fun k => k ≤ l.length) (fun k => [vs l, vi l.length, vi k]) (fun k => (vb ((l.drop k).all fun c => decide (128 ≤ c.toNat)), ([] : Hp))) (fun _ => by simp only [vis, visL, visB, fillR, rowsAt, toDs, toD, ↓ops_cons, ↓ops_consz, fzTs, fzLs, rg, rd, o, oz, kc, kb, ks, kx, on, og, od, ogd, A.run, evI, evOpt, evs, evP, argF, V.cs, binD, fzV, fzL, fzVs, dataVs, dataLs, V.data, L.data, unD, fillL, List.take_succ_cons, List.take_zero, List.drop_succ_cons, List.drop_zero, List.cons_append, ne_eq, Nat.reduceLT, Nat.reduceBEq, ↓reduceIte, Nat.reduceEqDiff, Nat.reduceAdd, Nat.reduceMul, Nat.reduceSub, Int.reduceToNat, Nat.reduceLeDiff, Int.reduceNeg, Int.reduceEq, Int.reduceLT, Int.reduceLE, Int.reduceBEq, Int.reduceBNe, Int.reduceToNat]) ?_ 0 (Nat.zero_le _) _ (by simp [vis, visL, visB, fillR, rowsAt, toDs, toD, ↓ops_cons, ↓ops_consz, fzTs, fzLs, rg, rd, o, oz, kc, kb, ks, kx, on, og, od, ogd, A.run, evI, evOpt, evs, evP, argF, V.cs, binD, fzV, fzL, fzVs, dataVs, dataLs, V.data, L.data, unD, fillL, List.take_succ_cons, List.take_zero, List.drop_succ_cons, List.drop_zero, List.cons_append, ne_eq, Nat.reduceLT, Nat.reduceBEq, ↓reduceIte, Nat.reduceEqDiff, Nat.reduceAdd, Nat.reduceMul, Nat.reduceSub, Int.reduceToNat, Nat.reduceLeDiff, Int.reduceNeg, Int.reduceEq, Int.reduceLT, Int.reduceLE, Int.reduceBEq, Int.reduceBNe, Int.reduceToNat])
    intro k hk R hR
    rcases Nat.lt_or_ge k l.length with h | h
    · simp only [List.drop_eq_getElem_cons h, List.all_cons]
      by_cases c1 : 128 ≤ l[k].toNat
      · rw [decide_eq_true c1, Bool.true_and]
        (simp (disch := first | decide | omega | (intros; exact Eq.trans rfl rfl) | (simp only [puri]; done)) only [a45_0, str_get l k h, vis, visL, visB, fillR, rowsAt, toDs, toD, ↓ops_cons, ↓ops_consz, fzTs, fzLs, rg, rd, o, oz, kc, kb, ks, kx, on, og, od, ogd, A.run, evI, evOpt, evs, evP, argF, V.cs, binD, fzV, fzL, fzVs, dataVs, dataLs, V.data, L.data, unD, fillL, List.take_succ_cons, List.take_zero, List.drop_succ_cons, List.drop_zero, List.cons_append, ne_eq, Nat.reduceLT, Nat.reduceBEq, ↓reduceIte, Nat.reduceEqDiff, Nat.reduceAdd, Nat.reduceMul, Nat.reduceSub, Int.reduceToNat, Nat.reduceLeDiff, Int.reduceNeg, Int.reduceEq, Int.reduceLT, Int.reduceLE, Int.reduceBEq, Int.reduceBNe, Int.reduceToNat, dis])
        exact hR (k + 1) (by first | omega | (simp only []; omega)) (by first | omega | (simp only []; omega)) _ (by simp [vis, visL, visB, fillR, rowsAt, toDs, toD, ↓ops_cons, ↓ops_consz, fzTs, fzLs, rg, rd, o, oz, kc, kb, ks, kx, on, og, od, ogd, A.run, evI, evOpt, evs, evP, argF, V.cs, binD, fzV, fzL, fzVs, dataVs, dataLs, V.data, L.data, unD, fillL, List.take_succ_cons, List.take_zero, List.drop_succ_cons, List.drop_zero, List.cons_append, ne_eq, Nat.reduceLT, Nat.reduceBEq, ↓reduceIte, Nat.reduceEqDiff, Nat.reduceAdd, Nat.reduceMul, Nat.reduceSub, Int.reduceToNat, Nat.reduceLeDiff, Int.reduceNeg, Int.reduceEq, Int.reduceLT, Int.reduceLE, Int.reduceBEq, Int.reduceBNe, Int.reduceToNat])
      · rw [decide_eq_false c1, Bool.false_and]
        (simp (disch := first | decide | omega | (intros; exact Eq.trans rfl rfl) | (simp only [puri]; done)) only [a45_0, str_get l k h, vis, visL, visB, fillR, rowsAt, toDs, toD, ↓ops_cons, ↓ops_consz, fzTs, fzLs, rg, rd, o, oz, kc, kb, ks, kx, on, og, od, ogd, A.run, evI, evOpt, evs, evP, argF, V.cs, binD, fzV, fzL, fzVs, dataVs, dataLs, V.data, L.data, unD, fillL, List.take_succ_cons, List.take_zero, List.drop_succ_cons, List.drop_zero, List.cons_append, ne_eq, Nat.reduceLT, Nat.reduceBEq, ↓reduceIte, Nat.reduceEqDiff, Nat.reduceAdd, Nat.reduceMul, Nat.reduceSub, Int.reduceToNat, Nat.reduceLeDiff, Int.reduceNeg, Int.reduceEq, Int.reduceLT, Int.reduceLE, Int.reduceBEq, Int.reduceBNe, Int.reduceToNat, dis])
    · (simp (disch := first | decide | omega | (intros; exact Eq.trans rfl rfl) | (simp only [puri]; done)) only [a45_0, List.drop_eq_nil_of_le h, List.all_nil, vis, visL, visB, fillR, rowsAt, toDs, toD, ↓ops_cons, ↓ops_consz, fzTs, fzLs, rg, rd, o, oz, kc, kb, ks, kx, on, og, od, ogd, A.run, evI, evOpt, evs, evP, argF, V.cs, binD, fzV, fzL, fzVs, dataVs, dataLs, V.data, L.data, unD, fillL, List.take_succ_cons, List.take_zero, List.drop_succ_cons, List.drop_zero, List.cons_append, ne_eq, Nat.reduceLT, Nat.reduceBEq, ↓reduceIte, Nat.reduceEqDiff, Nat.reduceAdd, Nat.reduceMul, Nat.reduceSub, Int.reduceToNat, Nat.reduceLeDiff, Int.reduceNeg, Int.reduceEq, Int.reduceLT, Int.reduceLE, Int.reduceBEq, Int.reduceBNe, Int.reduceToNat, dis])
  · have e : openF l = false := by simp [openF, c]
    rw [e]
    (simp (disch := first | decide | omega | (intros; exact Eq.trans rfl rfl) | (simp only [puri]; done)) only [a45, vis, visL, visB, fillR, rowsAt, toDs, toD, ↓ops_cons, ↓ops_consz, fzTs, fzLs, rg, rd, o, oz, kc, kb, ks, kx, on, og, od, ogd, A.run, evI, evOpt, evs, evP, argF, V.cs, binD, fzV, fzL, fzVs, dataVs, dataLs, V.data, L.data, unD, fillL, List.take_succ_cons, List.take_zero, List.drop_succ_cons, List.drop_zero, List.cons_append, ne_eq, Nat.reduceLT, Nat.reduceBEq, ↓reduceIte, Nat.reduceEqDiff, Nat.reduceAdd, Nat.reduceMul, Nat.reduceSub, Int.reduceToNat, Nat.reduceLeDiff, Int.reduceNeg, Int.reduceEq, Int.reduceLT, Int.reduceLE, Int.reduceBEq, Int.reduceBNe, Int.reduceToNat, dis])
theorem ends_spec (s : List UInt8) (a : Nat) (ha : a ≤ s.length) (hs : s.length ≤ 9223372036854775807) : call 46 [vs s, vi a] [] = some (vb (openF (s.drop a)), []) := by
  apply enterS s46 rfl
  have e : openF (s.drop a) = (((s.drop (a + 0)).all fun c => decide (128 ≤ c.toNat)) && decide (s.length - a ≤ 8)) := by simp [openF, Bool.and_comm]
  rw [e]
  (simp (disch := first | decide | omega | (intros; exact Eq.trans rfl rfl) | (simp only [puri]; done)) only [a46, vis, visL, visB, fillR, rowsAt, toDs, toD, ↓ops_cons, ↓ops_consz, fzTs, fzLs, rg, rd, o, oz, kc, kb, ks, kx, on, og, od, ogd, A.run, evI, evOpt, evs, evP, argF, V.cs, binD, fzV, fzL, fzVs, dataVs, dataLs, V.data, L.data, unD, fillL, List.take_succ_cons, List.take_zero, List.drop_succ_cons, List.drop_zero, List.cons_append, ne_eq, Nat.reduceLT, Nat.reduceBEq, ↓reduceIte, Nat.reduceEqDiff, Nat.reduceAdd, Nat.reduceMul, Nat.reduceSub, Int.reduceToNat, Nat.reduceLeDiff, Int.reduceNeg, Int.reduceEq, Int.reduceLT, Int.reduceLE, Int.reduceBEq, Int.reduceBNe, Int.reduceToNat, dis])
  refine loop_data (σ := Nat) (fun k => s.length - k) (fun k => k ≤ s.length) (fun k => [vs s, vi a, vi k]) (fun k => (vb (((s.drop k).all fun c => decide (128 ≤ c.toNat)) && decide (s.length - a ≤ 8)), ([] : Hp))) (fun _ => by simp only [vis, visL, visB, fillR, rowsAt, toDs, toD, ↓ops_cons, ↓ops_consz, fzTs, fzLs, rg, rd, o, oz, kc, kb, ks, kx, on, og, od, ogd, A.run, evI, evOpt, evs, evP, argF, V.cs, binD, fzV, fzL, fzVs, dataVs, dataLs, V.data, L.data, unD, fillL, List.take_succ_cons, List.take_zero, List.drop_succ_cons, List.drop_zero, List.cons_append, ne_eq, Nat.reduceLT, Nat.reduceBEq, ↓reduceIte, Nat.reduceEqDiff, Nat.reduceAdd, Nat.reduceMul, Nat.reduceSub, Int.reduceToNat, Nat.reduceLeDiff, Int.reduceNeg, Int.reduceEq, Int.reduceLT, Int.reduceLE, Int.reduceBEq, Int.reduceBNe, Int.reduceToNat]) ?_ a ha _ (by simp [vis, visL, visB, fillR, rowsAt, toDs, toD, ↓ops_cons, ↓ops_consz, fzTs, fzLs, rg, rd, o, oz, kc, kb, ks, kx, on, og, od, ogd, A.run, evI, evOpt, evs, evP, argF, V.cs, binD, fzV, fzL, fzVs, dataVs, dataLs, V.data, L.data, unD, fillL, List.take_succ_cons, List.take_zero, List.drop_succ_cons, List.drop_zero, List.cons_append, ne_eq, Nat.reduceLT, Nat.reduceBEq, ↓reduceIte, Nat.reduceEqDiff, Nat.reduceAdd, Nat.reduceMul, Nat.reduceSub, Int.reduceToNat, Nat.reduceLeDiff, Int.reduceNeg, Int.reduceEq, Int.reduceLT, Int.reduceLE, Int.reduceBEq, Int.reduceBNe, Int.reduceToNat])
  intro k hk R hR
  rcases Nat.lt_or_ge k s.length with h | h
  · simp only [List.drop_eq_getElem_cons h, List.all_cons]
    by_cases c1 : 128 ≤ s[k].toNat
    · rw [decide_eq_true c1, Bool.true_and]
      (simp (disch := first | decide | omega | (intros; exact Eq.trans rfl rfl) | (simp only [puri]; done)) only [a46_0, str_get s k h, vis, visL, visB, fillR, rowsAt, toDs, toD, ↓ops_cons, ↓ops_consz, fzTs, fzLs, rg, rd, o, oz, kc, kb, ks, kx, on, og, od, ogd, A.run, evI, evOpt, evs, evP, argF, V.cs, binD, fzV, fzL, fzVs, dataVs, dataLs, V.data, L.data, unD, fillL, List.take_succ_cons, List.take_zero, List.drop_succ_cons, List.drop_zero, List.cons_append, ne_eq, Nat.reduceLT, Nat.reduceBEq, ↓reduceIte, Nat.reduceEqDiff, Nat.reduceAdd, Nat.reduceMul, Nat.reduceSub, Int.reduceToNat, Nat.reduceLeDiff, Int.reduceNeg, Int.reduceEq, Int.reduceLT, Int.reduceLE, Int.reduceBEq, Int.reduceBNe, Int.reduceToNat, dis])
      exact hR (k + 1) (by first | omega | (simp only []; omega)) (by first | omega | (simp only []; omega)) _ (by simp [vis, visL, visB, fillR, rowsAt, toDs, toD, ↓ops_cons, ↓ops_consz, fzTs, fzLs, rg, rd, o, oz, kc, kb, ks, kx, on, og, od, ogd, A.run, evI, evOpt, evs, evP, argF, V.cs, binD, fzV, fzL, fzVs, dataVs, dataLs, V.data, L.data, unD, fillL, List.take_succ_cons, List.take_zero, List.drop_succ_cons, List.drop_zero, List.cons_append, ne_eq, Nat.reduceLT, Nat.reduceBEq, ↓reduceIte, Nat.reduceEqDiff, Nat.reduceAdd, Nat.reduceMul, Nat.reduceSub, Int.reduceToNat, Nat.reduceLeDiff, Int.reduceNeg, Int.reduceEq, Int.reduceLT, Int.reduceLE, Int.reduceBEq, Int.reduceBNe, Int.reduceToNat])
    · rw [decide_eq_false c1, Bool.false_and, Bool.false_and]
      (simp (disch := first | decide | omega | (intros; exact Eq.trans rfl rfl) | (simp only [puri]; done)) only [a46_0, str_get s k h, vis, visL, visB, fillR, rowsAt, toDs, toD, ↓ops_cons, ↓ops_consz, fzTs, fzLs, rg, rd, o, oz, kc, kb, ks, kx, on, og, od, ogd, A.run, evI, evOpt, evs, evP, argF, V.cs, binD, fzV, fzL, fzVs, dataVs, dataLs, V.data, L.data, unD, fillL, List.take_succ_cons, List.take_zero, List.drop_succ_cons, List.drop_zero, List.cons_append, ne_eq, Nat.reduceLT, Nat.reduceBEq, ↓reduceIte, Nat.reduceEqDiff, Nat.reduceAdd, Nat.reduceMul, Nat.reduceSub, Int.reduceToNat, Nat.reduceLeDiff, Int.reduceNeg, Int.reduceEq, Int.reduceLT, Int.reduceLE, Int.reduceBEq, Int.reduceBNe, Int.reduceToNat, dis])
  · rw [List.drop_eq_nil_of_le h, List.all_nil, Bool.true_and]
    by_cases c : s.length - a ≤ 8
    · rw [decide_eq_true c]
      (simp (disch := first | decide | omega | (intros; exact Eq.trans rfl rfl) | (simp only [puri]; done)) only [a46_0, vis, visL, visB, fillR, rowsAt, toDs, toD, ↓ops_cons, ↓ops_consz, fzTs, fzLs, rg, rd, o, oz, kc, kb, ks, kx, on, og, od, ogd, A.run, evI, evOpt, evs, evP, argF, V.cs, binD, fzV, fzL, fzVs, dataVs, dataLs, V.data, L.data, unD, fillL, List.take_succ_cons, List.take_zero, List.drop_succ_cons, List.drop_zero, List.cons_append, ne_eq, Nat.reduceLT, Nat.reduceBEq, ↓reduceIte, Nat.reduceEqDiff, Nat.reduceAdd, Nat.reduceMul, Nat.reduceSub, Int.reduceToNat, Nat.reduceLeDiff, Int.reduceNeg, Int.reduceEq, Int.reduceLT, Int.reduceLE, Int.reduceBEq, Int.reduceBNe, Int.reduceToNat, dis])
    · rw [decide_eq_false c]
      (simp (disch := first | decide | omega | (intros; exact Eq.trans rfl rfl) | (simp only [puri]; done)) only [a46_0, vis, visL, visB, fillR, rowsAt, toDs, toD, ↓ops_cons, ↓ops_consz, fzTs, fzLs, rg, rd, o, oz, kc, kb, ks, kx, on, og, od, ogd, A.run, evI, evOpt, evs, evP, argF, V.cs, binD, fzV, fzL, fzVs, dataVs, dataLs, V.data, L.data, unD, fillL, List.take_succ_cons, List.take_zero, List.drop_succ_cons, List.drop_zero, List.cons_append, ne_eq, Nat.reduceLT, Nat.reduceBEq, ↓reduceIte, Nat.reduceEqDiff, Nat.reduceAdd, Nat.reduceMul, Nat.reduceSub, Int.reduceToNat, Nat.reduceLeDiff, Int.reduceNeg, Int.reduceEq, Int.reduceLT, Int.reduceLE, Int.reduceBEq, Int.reduceBNe, Int.reduceToNat, dis])
end Go.Proofs.Ytnkmkphdgebkgaa
