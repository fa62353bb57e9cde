import Derived.Test.YtogleebbifpijaaD02
import Derived.Test.YtogleebbifpijaaVic
set_option linter.unusedSimpArgs false
set_option linter.unusedVariables false
namespace Go.Proofs.Ytogleebbifpijaa
open Go.Vi
set_option linter.unusedSimpArgs false

set_option maxRecDepth 4000 in
theorem len64_spec (n : Nat) (hn : n < 18446744073709551616) : call 56 [vk .u64 ((n : Nat) : Int)] [] = some (vi (blen n), []) := by
  apply enterS s56 rfl
  -- the last eight bits
  have last : ∀ m : Nat, m < 256 → IntKind.u8.wrap ((m : Nat) : Int) = ((m : Nat) : Int) := fun m h => wrap_u8 (by omega)
  have tab : ∀ m : Nat, m < 256 → IntKind.i64.wrap (((UInt8.ofNat (blen m)).toNat : Nat) : Int) = ((blen m : Nat) : Int) := fun m h => by
    rw [blen_small h]
    have := (blen_le m 8).2 h
    exact wrap_i (by omega)
  have b8 : ∀ m : Nat, m < 256 → blen m ≤ 8 := fun m h => (blen_le m 8).2 h
  by_cases c0 : 4294967296 ≤ n
  · have e0 := blen_shift (n) 32 c0
    simp only [Nat.reducePow] at e0
    by_cases c1 : 65536 ≤ n / 4294967296
    · have e1 := blen_shift (n / 4294967296) 16 c1
      simp only [Nat.reducePow] at e1
      by_cases c2 : 256 ≤ n / 4294967296 / 65536
      · have e2 := blen_shift (n / 4294967296 / 65536) 8 c2
        simp only [Nat.reducePow] at e2
        have hm : n / 4294967296 / 65536 / 256 < 256 := by omega
        have := b8 _ hm
        have e : ((blen n : Nat) : Int) = 32 + 16 + 8 + ((blen (n / 4294967296 / 65536 / 256) : Nat) : Int) := by omega
        rw [e]
        (simp (disch := first | decide | omega | (intros; exact Eq.trans rfl rfl) | (simp only [puri]; done)) only [a56, ↓shr64_32, ↓shr64_16, ↓shr64_8, last _ hm, len8_all _ hm, tab _ hm, Int.zero_add, vis, visL, visB, fillR, rowsAt, toDs, toD, ↓ops_cons, ↓ops_consz, fzTs, fzLs, rg, rd, o, oz, kc, kb, ks, kx, on, og, od, ogd, A.run, evI, evOpt, evs, evP, argF, V.cs, binD, fzV, fzL, fzVs, dataVs, dataLs, V.data, L.data, unD, fillL, List.take_succ_cons, List.take_zero, List.drop_succ_cons, List.drop_zero, List.cons_append, ne_eq, Nat.reduceLT, Nat.reduceBEq, ↓reduceIte, Nat.reduceEqDiff, Nat.reduceAdd, Nat.reduceMul, Nat.reduceSub, Int.reduceToNat, Nat.reduceLeDiff, Int.reduceNeg, Int.reduceEq, Int.reduceLT, Int.reduceLE, Int.reduceBEq, Int.reduceBNe, Int.reduceToNat, dis])
      · skip
        have hm : n / 4294967296 / 65536 < 256 := by omega
        have := b8 _ hm
        have e : ((blen n : Nat) : Int) = 32 + 16 + ((blen (n / 4294967296 / 65536) : Nat) : Int) := by omega
        rw [e]
        (simp (disch := first | decide | omega | (intros; exact Eq.trans rfl rfl) | (simp only [puri]; done)) only [a56, ↓shr64_32, ↓shr64_16, ↓shr64_8, last _ hm, len8_all _ hm, tab _ hm, Int.zero_add, vis, visL, visB, fillR, rowsAt, toDs, toD, ↓ops_cons, ↓ops_consz, fzTs, fzLs, rg, rd, o, oz, kc, kb, ks, kx, on, og, od, ogd, A.run, evI, evOpt, evs, evP, argF, V.cs, binD, fzV, fzL, fzVs, dataVs, dataLs, V.data, L.data, unD, fillL, List.take_succ_cons, List.take_zero, List.drop_succ_cons, List.drop_zero, List.cons_append, ne_eq, Nat.reduceLT, Nat.reduceBEq, ↓reduceIte, Nat.reduceEqDiff, Nat.reduceAdd, Nat.reduceMul, Nat.reduceSub, Int.reduceToNat, Nat.reduceLeDiff, Int.reduceNeg, Int.reduceEq, Int.reduceLT, Int.reduceLE, Int.reduceBEq, Int.reduceBNe, Int.reduceToNat, dis])
    · skip
      by_cases c2 : 256 ≤ n / 4294967296
      · have e2 := blen_shift (n / 4294967296) 8 c2
        simp only [Nat.reducePow] at e2
        have hm : n / 4294967296 / 256 < 256 := by omega
        have := b8 _ hm
        have e : ((blen n : Nat) : Int) = 32 + 8 + ((blen (n / 4294967296 / 256) : Nat) : Int) := by omega
        rw [e]
        (simp (disch := first | decide | omega | (intros; exact Eq.trans rfl rfl) | (simp only [puri]; done)) only [a56, ↓shr64_32, ↓shr64_16, ↓shr64_8, last _ hm, len8_all _ hm, tab _ hm, Int.zero_add, vis, visL, visB, fillR, rowsAt, toDs, toD, ↓ops_cons, ↓ops_consz, fzTs, fzLs, rg, rd, o, oz, kc, kb, ks, kx, on, og, od, ogd, A.run, evI, evOpt, evs, evP, argF, V.cs, binD, fzV, fzL, fzVs, dataVs, dataLs, V.data, L.data, unD, fillL, List.take_succ_cons, List.take_zero, List.drop_succ_cons, List.drop_zero, List.cons_append, ne_eq, Nat.reduceLT, Nat.reduceBEq, ↓reduceIte, Nat.reduceEqDiff, Nat.reduceAdd, Nat.reduceMul, Nat.reduceSub, Int.reduceToNat, Nat.reduceLeDiff, Int.reduceNeg, Int.reduceEq, Int.reduceLT, Int.reduceLE, Int.reduceBEq, Int.reduceBNe, Int.reduceToNat, dis])
      · skip
        have hm : n / 4294967296 < 256 := by omega
        have := b8 _ hm
        have e : ((blen n : Nat) : Int) = 32 + ((blen (n / 4294967296) : Nat) : Int) := by omega
        rw [e]
        (simp (disch := first | decide | omega | (intros; exact Eq.trans rfl rfl) | (simp only [puri]; done)) only [a56, ↓shr64_32, ↓shr64_16, ↓shr64_8, last _ hm, len8_all _ hm, tab _ hm, Int.zero_add, vis, visL, visB, fillR, rowsAt, toDs, toD, ↓ops_cons, ↓ops_consz, fzTs, fzLs, rg, rd, o, oz, kc, kb, ks, kx, on, og, od, ogd, A.run, evI, evOpt, evs, evP, argF, V.cs, binD, fzV, fzL, fzVs, dataVs, dataLs, V.data, L.data, unD, fillL, List.take_succ_cons, List.take_zero, List.drop_succ_cons, List.drop_zero, List.cons_append, ne_eq, Nat.reduceLT, Nat.reduceBEq, ↓reduceIte, Nat.reduceEqDiff, Nat.reduceAdd, Nat.reduceMul, Nat.reduceSub, Int.reduceToNat, Nat.reduceLeDiff, Int.reduceNeg, Int.reduceEq, Int.reduceLT, Int.reduceLE, Int.reduceBEq, Int.reduceBNe, Int.reduceToNat, dis])
  · skip
    by_cases c1 : 65536 ≤ n
    · have e1 := blen_shift (n) 16 c1
      simp only [Nat.reducePow] at e1
      by_cases c2 : 256 ≤ n / 65536
      · have e2 := blen_shift (n / 65536) 8 c2
        simp only [Nat.reducePow] at e2
        have hm : n / 65536 / 256 < 256 := by omega
        have := b8 _ hm
        have e : ((blen n : Nat) : Int) = 16 + 8 + ((blen (n / 65536 / 256) : Nat) : Int) := by omega
        rw [e]
        (simp (disch := first | decide | omega | (intros; exact Eq.trans rfl rfl) | (simp only [puri]; done)) only [a56, ↓shr64_32, ↓shr64_16, ↓shr64_8, last _ hm, len8_all _ hm, tab _ hm, Int.zero_add, vis, visL, visB, fillR, rowsAt, toDs, toD, ↓ops_cons, ↓ops_consz, fzTs, fzLs, rg, rd, o, oz, kc, kb, ks, kx, on, og, od, ogd, A.run, evI, evOpt, evs, evP, argF, V.cs, binD, fzV, fzL, fzVs, dataVs, dataLs, V.data, L.data, unD, fillL, List.take_succ_cons, List.take_zero, List.drop_succ_cons, List.drop_zero, List.cons_append, ne_eq, Nat.reduceLT, Nat.reduceBEq, ↓reduceIte, Nat.reduceEqDiff, Nat.reduceAdd, Nat.reduceMul, Nat.reduceSub, Int.reduceToNat, Nat.reduceLeDiff, Int.reduceNeg, Int.reduceEq, Int.reduceLT, Int.reduceLE, Int.reduceBEq, Int.reduceBNe, Int.reduceToNat, dis])
      · skip
        have hm : n / 65536 < 256 := by omega
        have := b8 _ hm
        have e : ((blen n : Nat) : Int) = 16 + ((blen (n / 65536) : Nat) : Int) := by omega
        rw [e]
        (simp (disch := first | decide | omega | (intros; exact Eq.trans rfl rfl) | (simp only [puri]; done)) only [a56, ↓shr64_32, ↓shr64_16, ↓shr64_8, last _ hm, len8_all _ hm, tab _ hm, Int.zero_add, vis, visL, visB, fillR, rowsAt, toDs, toD, ↓ops_cons, ↓ops_consz, fzTs, fzLs, rg, rd, o, oz, kc, kb, ks, kx, on, og, od, ogd, A.run, evI, evOpt, evs, evP, argF, V.cs, binD, fzV, fzL, fzVs, dataVs, dataLs, V.data, L.data, unD, fillL, List.take_succ_cons, List.take_zero, List.drop_succ_cons, List.drop_zero, List.cons_append, ne_eq, Nat.reduceLT, Nat.reduceBEq, ↓reduceIte, Nat.reduceEqDiff, Nat.reduceAdd, Nat.reduceMul, Nat.reduceSub, Int.reduceToNat, Nat.reduceLeDiff, Int.reduceNeg, Int.reduceEq, Int.reduceLT, Int.reduceLE, Int.reduceBEq, Int.reduceBNe, Int.reduceToNat, dis])
    · skip
      by_cases c2 : 256 ≤ n
      · have e2 := blen_shift (n) 8 c2
        simp only [Nat.reducePow] at e2
        have hm : n / 256 < 256 := by omega
        have := b8 _ hm
        have e : ((blen n : Nat) : Int) = 8 + ((blen (n / 256) : Nat) : Int) := by omega
        rw [e]
        (simp (disch := first | decide | omega | (intros; exact Eq.trans rfl rfl) | (simp only [puri]; done)) only [a56, ↓shr64_32, ↓shr64_16, ↓shr64_8, last _ hm, len8_all _ hm, tab _ hm, Int.zero_add, vis, visL, visB, fillR, rowsAt, toDs, toD, ↓ops_cons, ↓ops_consz, fzTs, fzLs, rg, rd, o, oz, kc, kb, ks, kx, on, og, od, ogd, A.run, evI, evOpt, evs, evP, argF, V.cs, binD, fzV, fzL, fzVs, dataVs, dataLs, V.data, L.data, unD, fillL, List.take_succ_cons, List.take_zero, List.drop_succ_cons, List.drop_zero, List.cons_append, ne_eq, Nat.reduceLT, Nat.reduceBEq, ↓reduceIte, Nat.reduceEqDiff, Nat.reduceAdd, Nat.reduceMul, Nat.reduceSub, Int.reduceToNat, Nat.reduceLeDiff, Int.reduceNeg, Int.reduceEq, Int.reduceLT, Int.reduceLE, Int.reduceBEq, Int.reduceBNe, Int.reduceToNat, dis])
      · skip
        have hm : n < 256 := by omega
        have := b8 _ hm
        have e : ((blen n : Nat) : Int) = ((blen (n) : Nat) : Int) := by omega
        rw [e]
        (simp (disch := first | decide | omega | (intros; exact Eq.trans rfl rfl) | (simp only [puri]; done)) only [a56, ↓shr64_32, ↓shr64_16, ↓shr64_8, last _ hm, len8_all _ hm, tab _ hm, Int.zero_add, vis, visL, visB, fillR, rowsAt, toDs, toD, ↓ops_cons, ↓ops_consz, fzTs, fzLs, rg, rd, o, oz, kc, kb, ks, kx, on, og, od, ogd, A.run, evI, evOpt, evs, evP, argF, V.cs, binD, fzV, fzL, fzVs, dataVs, dataLs, V.data, L.data, unD, fillL, List.take_succ_cons, List.take_zero, List.drop_succ_cons, List.drop_zero, List.cons_append, ne_eq, Nat.reduceLT, Nat.reduceBEq, ↓reduceIte, Nat.reduceEqDiff, Nat.reduceAdd, Nat.reduceMul, Nat.reduceSub, Int.reduceToNat, Nat.reduceLeDiff, Int.reduceNeg, Int.reduceEq, Int.reduceLT, Int.reduceLE, Int.reduceBEq, Int.reduceBNe, Int.reduceToNat, dis])

theorem len_spec (n : Nat) (hn : n < 9223372036854775808) : call 53 [vi n] [] = some (vi (nd n), []) := by
  apply enterS s53 rfl
  have h64 := len64_spec n (by omega)
  have hb : blen n ≤ 63 := (blen_le n 63).2 (by omega)
  have hq : (((blen n : Nat) : Int) + 6).tdiv 7 = (((blen n + 6) / 7 : Nat) : Int) := by rw [Int.tdiv_eq_ediv_of_nonneg (by omega)]; omega
  have hm := nd_blen n
  by_cases c : 1 < (blen n + 6) / 7
  · have e : nd n = (blen n + 6) / 7 := by omega
    rw [e]
    (simp (disch := first | decide | omega | (intros; exact Eq.trans rfl rfl) | (simp only [puri]; done)) only [a53, h64, hq, vis, visL, visB, fillR, rowsAt, toDs, toD, ↓ops_cons, ↓ops_consz, fzTs, fzLs, rg, rd, o, oz, kc, kb, ks, kx, on, og, od, ogd, A.run, evI, evOpt, evs, evP, argF, V.cs, binD, fzV, fzL, fzVs, dataVs, dataLs, V.data, L.data, unD, fillL, List.take_succ_cons, List.take_zero, List.drop_succ_cons, List.drop_zero, List.cons_append, ne_eq, Nat.reduceLT, Nat.reduceBEq, ↓reduceIte, Nat.reduceEqDiff, Nat.reduceAdd, Nat.reduceMul, Nat.reduceSub, Int.reduceToNat, Nat.reduceLeDiff, Int.reduceNeg, Int.reduceEq, Int.reduceLT, Int.reduceLE, Int.reduceBEq, Int.reduceBNe, Int.reduceToNat, dis])
  · have e : nd n = 1 := by omega
    have c' : ¬ (((blen n + 6) / 7 : Nat) : Int) > 1 := by omega
    rw [e]
    (simp (disch := first | decide | omega | (intros; exact Eq.trans rfl rfl) | (simp only [puri]; done)) only [a53, h64, hq, if_neg c', vis, visL, visB, fillR, rowsAt, toDs, toD, ↓ops_cons, ↓ops_consz, fzTs, fzLs, rg, rd, o, oz, kc, kb, ks, kx, on, og, od, ogd, A.run, evI, evOpt, evs, evP, argF, V.cs, binD, fzV, fzL, fzVs, dataVs, dataLs, V.data, L.data, unD, fillL, List.take_succ_cons, List.take_zero, List.drop_succ_cons, List.drop_zero, List.cons_append, ne_eq, Nat.reduceLT, Nat.reduceBEq, ↓reduceIte, Nat.reduceEqDiff, Nat.reduceAdd, Nat.reduceMul, Nat.reduceSub, Int.reduceToNat, Nat.reduceLeDiff, Int.reduceNeg, Int.reduceEq, Int.reduceLT, Int.reduceLE, Int.reduceBEq, Int.reduceBNe, Int.reduceToNat, dis])
    rfl
theorem len_neg (n : Int) (hn : n < 0) : call 53 [vi n] [] = some (vi 0, []) := by
  apply enterS s53 rfl
  (simp (disch := first | decide | omega | (intros; exact Eq.trans rfl rfl) | (simp only [puri]; done)) only [a53, vis, visL, visB, fillR, rowsAt, toDs, toD, ↓ops_cons, ↓ops_consz, fzTs, fzLs, rg, rd, o, oz, kc, kb, ks, kx, on, og, od, ogd, A.run, evI, evOpt, evs, evP, argF, V.cs, binD, fzV, fzL, fzVs, dataVs, dataLs, V.data, L.data, unD, fillL, List.take_succ_cons, List.take_zero, List.drop_succ_cons, List.drop_zero, List.cons_append, ne_eq, Nat.reduceLT, Nat.reduceBEq, ↓reduceIte, Nat.reduceEqDiff, Nat.reduceAdd, Nat.reduceMul, Nat.reduceSub, Int.reduceToNat, Nat.reduceLeDiff, Int.reduceNeg, Int.reduceEq, Int.reduceLT, Int.reduceLE, Int.reduceBEq, Int.reduceBNe, Int.reduceToNat, dis])
end Go.Proofs.Ytogleebbifpijaa
