import Derived.Test.YtogleebbifpijaaD04
set_option linter.unusedSimpArgs false
set_option linter.unusedVariables false
namespace Go.Proofs.Ytogleebbifpijaa
open Go.Vi
set_option linter.unusedSimpArgs false

def rdV (a : Nat) : Option (Nat × Nat) → V
  | some (n, k) => .tup [(false, [.d (.i .i64 n)]), (false, [.d (.i .i64 ((a + k : Nat) : Int))]), (false, [.d (.b true)])]
  | none => .tup [(false, [.d (.i .i64 0)]), (false, [.d (.i .i64 0)]), (false, [.d (.b false)])]
theorem read_neg (s : List UInt8) (a : Int) (ha : a < 0) : call 44 [vs s, vi a] [] = some (rdV 0 none, []) := by
  apply enterS s44 rfl
  (simp (disch := first | decide | omega | (intros; exact Eq.trans rfl rfl) | (simp only [puri]; done)) only [a44, rdV, vis, visL, visB, fillR, rowsAt, toDs, toD, ↓ops_cons, ↓ops_consz, fzTs, fzLs, rg, rd, o, oz, kc, kb, ks, kx, on, og, od, ogd, A.run, evI, evOpt, evs, evP, argF, V.cs, binD, fzV, fzL, fzVs, dataVs, dataLs, V.data, L.data, unD, fillL, List.take_succ_cons, List.take_zero, List.drop_succ_cons, List.drop_zero, List.cons_append, ne_eq, Nat.reduceLT, Nat.reduceBEq, ↓reduceIte, Nat.reduceEqDiff, Nat.reduceAdd, Nat.reduceMul, Nat.reduceSub, Int.reduceToNat, Nat.reduceLeDiff, Int.reduceNeg, Int.reduceEq, Int.reduceLT, Int.reduceLE, Int.reduceBEq, Int.reduceBNe, Int.reduceToNat, dis])
theorem shl64 (c i : Nat) (hc : c < 128) (hi : i ≤ 8) : binD .shl (.i .i64 ((c : Nat) : Int)) (.i .u64 (7 * ((i : Nat) : Int))) = some (.i .i64 ((c * 2 ^ (7 * i) : Nat) : Int)) ∧ c * 2 ^ (7 * i) + 2 ^ (7 * i) ≤ 9223372036854775808 := by
  have h2 : 2 ^ (7 * i) ≤ 2 ^ 56 := Nat.pow_le_pow_right (by decide) (by omega)
  have h3 : (c + 1) * 2 ^ (7 * i) ≤ 128 * 2 ^ 56 := Nat.mul_le_mul (by omega) h2
  have h4 : (128 : Nat) * 2 ^ 56 = 9223372036854775808 := by decide
  have h5 : (c + 1) * 2 ^ (7 * i) = c * 2 ^ (7 * i) + 2 ^ (7 * i) := by rw [Nat.add_mul, Nat.one_mul]
  refine ⟨?_, by omega⟩
  have hp : 0 < 2 ^ (7 * i) := Nat.pow_pos (by decide)
  simp only [binD]
  rw [if_neg (by omega)]
  have e1 : (7 * ((i : Nat) : Int)).toNat = 7 * i := by omega
  have e2 : min (7 * i) IntKind.i64.bits = 7 * i := Nat.min_eq_left (by show 7 * i ≤ 64; omega)
  rw [e1, e2]
  have e3 : ((c : Nat) : Int) * 2 ^ (7 * i) = ((c * 2 ^ (7 * i) : Nat) : Int) := by simp
  rw [e3, wrap_i (by omega)]

theorem rdF_nil (i n : Nat) : rdF [] i n = none := rfl
theorem rdF_cons (c : UInt8) (r : List UInt8) (i n : Nat) : rdF (c :: r) i n = if 9 ≤ i then none else if 128 ≤ c.toNat then rdF r (i + 1) (n + c.toNat % 128 * 128 ^ i) else if c.toNat = 0 ∧ 0 < i then none else some (n + c.toNat * 128 ^ i, i + 1) := rfl

set_option maxRecDepth 4000 in
theorem read_spec (s : List UInt8) (a : Nat) (ha : a < 9223372036854775808) (hs : s.length ≤ 9223372036854775807) : call 44 [vs s, vi a] [] = some (rdV a (rdF (s.drop a) 0 0), []) := by
  apply enterS s44 rfl
  (simp (disch := first | decide | omega | (intros; exact Eq.trans rfl rfl) | (simp only [puri]; done)) only [a44, vis, visL, visB, fillR, rowsAt, toDs, toD, ↓ops_cons, ↓ops_consz, fzTs, fzLs, rg, rd, o, oz, kc, kb, ks, kx, on, og, od, ogd, A.run, evI, evOpt, evs, evP, argF, V.cs, binD, fzV, fzL, fzVs, dataVs, dataLs, V.data, L.data, unD, fillL, List.take_succ_cons, List.take_zero, List.drop_succ_cons, List.drop_zero, List.cons_append, ne_eq, Nat.reduceLT, Nat.reduceBEq, ↓reduceIte, Nat.reduceEqDiff, Nat.reduceAdd, Nat.reduceMul, Nat.reduceSub, Int.reduceToNat, Nat.reduceLeDiff, Int.reduceNeg, Int.reduceEq, Int.reduceLT, Int.reduceLE, Int.reduceBEq, Int.reduceBNe, Int.reduceToNat, dis])
  refine loop_data (σ := Nat × Nat) (fun t => 9 - t.1) (fun t => t.1 ≤ 9 ∧ t.2 < 128 ^ t.1) (fun t => [vs s, vi a, vi t.2, vi t.1]) (fun t => (rdV a (rdF (s.drop (a + t.1)) t.1 t.2), ([] : Hp))) (fun _ => by simp only [vis, visL, visB, fillR, rowsAt, toDs, toD, ↓ops_cons, ↓ops_consz, fzTs, fzLs, rg, rd, o, oz, kc, kb, ks, kx, on, og, od, ogd, A.run, evI, evOpt, evs, evP, argF, V.cs, binD, fzV, fzL, fzVs, dataVs, dataLs, V.data, L.data, unD, fillL, List.take_succ_cons, List.take_zero, List.drop_succ_cons, List.drop_zero, List.cons_append, ne_eq, Nat.reduceLT, Nat.reduceBEq, ↓reduceIte, Nat.reduceEqDiff, Nat.reduceAdd, Nat.reduceMul, Nat.reduceSub, Int.reduceToNat, Nat.reduceLeDiff, Int.reduceNeg, Int.reduceEq, Int.reduceLT, Int.reduceLE, Int.reduceBEq, Int.reduceBNe, Int.reduceToNat]) ?_ (0, 0) ⟨by decide, by decide⟩ _ (by simp [vis, visL, visB, fillR, rowsAt, toDs, toD, ↓ops_cons, ↓ops_consz, fzTs, fzLs, rg, rd, o, oz, kc, kb, ks, kx, on, og, od, ogd, A.run, evI, evOpt, evs, evP, argF, V.cs, binD, fzV, fzL, fzVs, dataVs, dataLs, V.data, L.data, unD, fillL, List.take_succ_cons, List.take_zero, List.drop_succ_cons, List.drop_zero, List.cons_append, ne_eq, Nat.reduceLT, Nat.reduceBEq, ↓reduceIte, Nat.reduceEqDiff, Nat.reduceAdd, Nat.reduceMul, Nat.reduceSub, Int.reduceToNat, Nat.reduceLeDiff, Int.reduceNeg, Int.reduceEq, Int.reduceLT, Int.reduceLE, Int.reduceBEq, Int.reduceBNe, Int.reduceToNat])
  rintro ⟨i, n⟩ ⟨hi, hn⟩ R hR
  simp only at hi hn
  rcases Nat.lt_or_ge (a + i) s.length with h | h
  · rcases Nat.lt_or_ge i 9 with h9 | h9
    · simp only [List.drop_eq_getElem_cons h, rdF_cons]
      rw [if_neg (by omega)]
      obtain ⟨c, hc⟩ : ∃ c, c = s[a + i] := ⟨_, rfl⟩
      rw [← hc]
      have hg : s[a + i]? = some c := by rw [hc]; simp [h]
      have hc8 := c.toNat_lt
      have hm : c.toNat % 128 < 128 := Nat.mod_lt _ (by decide)
      obtain ⟨hsh, hbd⟩ := shl64 (c.toNat % 128) i hm (by omega)
      have hp : (2 : Nat) ^ (7 * i) = 128 ^ i := by rw [Nat.pow_mul]
      have hand := and8 c.toNat (by omega)
      have hor := or64 n (c.toNat % 128) (7 * i) (by rw [hp]; exact hn) (by rw [hp] at hbd ⊢; omega)
      rw [hp] at hsh hor hbd
      have hidx : (((a : Nat) : Int) + ((i : Nat) : Int)).toNat = a + i := by omega
      have hnat : ((a + (i + 1) : Nat) : Int) = (a : Int) + (i : Int) + 1 := by omega
      have hnx : n + c.toNat % 128 * 128 ^ i < 128 ^ (i + 1) := by
        have := Nat.mul_le_mul_right (128 ^ i) (by omega : c.toNat % 128 + 1 ≤ 128)
        rw [Nat.pow_succ, Nat.mul_comm (128 ^ i) 128]
        rw [Nat.add_mul, Nat.one_mul] at this
        omega
      rcases Nat.lt_or_ge c.toNat 128 with h1 | h1
      · rw [if_neg (by omega)]
        have hmm : c.toNat % 128 = c.toNat := Nat.mod_eq_of_lt h1
        rw [hmm] at hand hsh hor
        by_cases h0 : c.toNat = 0
        · by_cases hi0 : 0 < i
          · rw [if_pos ⟨h0, hi0⟩]
            (simp (disch := first | decide | omega | (intros; exact Eq.trans rfl rfl) | (simp only [puri]; done)) only [a44_0, hidx, hg, ↓hand, ↓hsh, ↓hor, rdV, vis, visL, visB, fillR, rowsAt, toDs, toD, ↓ops_cons, ↓ops_consz, fzTs, fzLs, rg, rd, o, oz, kc, kb, ks, kx, on, og, od, ogd, A.run, evI, evOpt, evs, evP, argF, V.cs, binD, fzV, fzL, fzVs, dataVs, dataLs, V.data, L.data, unD, fillL, List.take_succ_cons, List.take_zero, List.drop_succ_cons, List.drop_zero, List.cons_append, ne_eq, Nat.reduceLT, Nat.reduceBEq, ↓reduceIte, Nat.reduceEqDiff, Nat.reduceAdd, Nat.reduceMul, Nat.reduceSub, Int.reduceToNat, Nat.reduceLeDiff, Int.reduceNeg, Int.reduceEq, Int.reduceLT, Int.reduceLE, Int.reduceBEq, Int.reduceBNe, Int.reduceToNat, dis])
          · rw [if_neg (by omega)]
            (simp (disch := first | decide | omega | (intros; exact Eq.trans rfl rfl) | (simp only [puri]; done)) only [a44_0, hidx, hg, ↓hand, ↓hsh, ↓hor, hnat, rdV, vis, visL, visB, fillR, rowsAt, toDs, toD, ↓ops_cons, ↓ops_consz, fzTs, fzLs, rg, rd, o, oz, kc, kb, ks, kx, on, og, od, ogd, A.run, evI, evOpt, evs, evP, argF, V.cs, binD, fzV, fzL, fzVs, dataVs, dataLs, V.data, L.data, unD, fillL, List.take_succ_cons, List.take_zero, List.drop_succ_cons, List.drop_zero, List.cons_append, ne_eq, Nat.reduceLT, Nat.reduceBEq, ↓reduceIte, Nat.reduceEqDiff, Nat.reduceAdd, Nat.reduceMul, Nat.reduceSub, Int.reduceToNat, Nat.reduceLeDiff, Int.reduceNeg, Int.reduceEq, Int.reduceLT, Int.reduceLE, Int.reduceBEq, Int.reduceBNe, Int.reduceToNat, dis])
        · rw [if_neg (by omega)]
          (simp (disch := first | decide | omega | (intros; exact Eq.trans rfl rfl) | (simp only [puri]; done)) only [a44_0, hidx, hg, ↓hand, ↓hsh, ↓hor, hnat, rdV, vis, visL, visB, fillR, rowsAt, toDs, toD, ↓ops_cons, ↓ops_consz, fzTs, fzLs, rg, rd, o, oz, kc, kb, ks, kx, on, og, od, ogd, A.run, evI, evOpt, evs, evP, argF, V.cs, binD, fzV, fzL, fzVs, dataVs, dataLs, V.data, L.data, unD, fillL, List.take_succ_cons, List.take_zero, List.drop_succ_cons, List.drop_zero, List.cons_append, ne_eq, Nat.reduceLT, Nat.reduceBEq, ↓reduceIte, Nat.reduceEqDiff, Nat.reduceAdd, Nat.reduceMul, Nat.reduceSub, Int.reduceToNat, Nat.reduceLeDiff, Int.reduceNeg, Int.reduceEq, Int.reduceLT, Int.reduceLE, Int.reduceBEq, Int.reduceBNe, Int.reduceToNat, dis])
      · rw [if_pos h1]
        (simp (disch := first | decide | omega | (intros; exact Eq.trans rfl rfl) | (simp only [puri]; done)) only [a44_0, hidx, hg, ↓hand, ↓hsh, ↓hor, vis, visL, visB, fillR, rowsAt, toDs, toD, ↓ops_cons, ↓ops_consz, fzTs, fzLs, rg, rd, o, oz, kc, kb, ks, kx, on, og, od, ogd, A.run, evI, evOpt, evs, evP, argF, V.cs, binD, fzV, fzL, fzVs, dataVs, dataLs, V.data, L.data, unD, fillL, List.take_succ_cons, List.take_zero, List.drop_succ_cons, List.drop_zero, List.cons_append, ne_eq, Nat.reduceLT, Nat.reduceBEq, ↓reduceIte, Nat.reduceEqDiff, Nat.reduceAdd, Nat.reduceMul, Nat.reduceSub, Int.reduceToNat, Nat.reduceLeDiff, Int.reduceNeg, Int.reduceEq, Int.reduceLT, Int.reduceLE, Int.reduceBEq, Int.reduceBNe, Int.reduceToNat, dis])
        exact hR (i + 1, n + c.toNat % 128 * 128 ^ i) (by simp only []; omega) ⟨by simp only []; omega, hnx⟩ _ (by simp [vis, visL, visB, fillR, rowsAt, toDs, toD, ↓ops_cons, ↓ops_consz, fzTs, fzLs, rg, rd, o, oz, kc, kb, ks, kx, on, og, od, ogd, A.run, evI, evOpt, evs, evP, argF, V.cs, binD, fzV, fzL, fzVs, dataVs, dataLs, V.data, L.data, unD, fillL, List.take_succ_cons, List.take_zero, List.drop_succ_cons, List.drop_zero, List.cons_append, ne_eq, Nat.reduceLT, Nat.reduceBEq, ↓reduceIte, Nat.reduceEqDiff, Nat.reduceAdd, Nat.reduceMul, Nat.reduceSub, Int.reduceToNat, Nat.reduceLeDiff, Int.reduceNeg, Int.reduceEq, Int.reduceLT, Int.reduceLE, Int.reduceBEq, Int.reduceBNe, Int.reduceToNat])
    · have e : rdF (s.drop (a + i)) i n = none := by
        rw [List.drop_eq_getElem_cons h, rdF_cons, if_pos h9]
      simp only [e]
      (simp (disch := first | decide | omega | (intros; exact Eq.trans rfl rfl) | (simp only [puri]; done)) only [a44_0, rdV, vis, visL, visB, fillR, rowsAt, toDs, toD, ↓ops_cons, ↓ops_consz, fzTs, fzLs, rg, rd, o, oz, kc, kb, ks, kx, on, og, od, ogd, A.run, evI, evOpt, evs, evP, argF, V.cs, binD, fzV, fzL, fzVs, dataVs, dataLs, V.data, L.data, unD, fillL, List.take_succ_cons, List.take_zero, List.drop_succ_cons, List.drop_zero, List.cons_append, ne_eq, Nat.reduceLT, Nat.reduceBEq, ↓reduceIte, Nat.reduceEqDiff, Nat.reduceAdd, Nat.reduceMul, Nat.reduceSub, Int.reduceToNat, Nat.reduceLeDiff, Int.reduceNeg, Int.reduceEq, Int.reduceLT, Int.reduceLE, Int.reduceBEq, Int.reduceBNe, Int.reduceToNat, dis])
  · simp only [List.drop_eq_nil_of_le h, rdF_nil]
    rcases Nat.lt_or_ge i 9 with h9 | h9
    · (simp (disch := first | decide | omega | (intros; exact Eq.trans rfl rfl) | (simp only [puri]; done)) only [a44_0, rdV, vis, visL, visB, fillR, rowsAt, toDs, toD, ↓ops_cons, ↓ops_consz, fzTs, fzLs, rg, rd, o, oz, kc, kb, ks, kx, on, og, od, ogd, A.run, evI, evOpt, evs, evP, argF, V.cs, binD, fzV, fzL, fzVs, dataVs, dataLs, V.data, L.data, unD, fillL, List.take_succ_cons, List.take_zero, List.drop_succ_cons, List.drop_zero, List.cons_append, ne_eq, Nat.reduceLT, Nat.reduceBEq, ↓reduceIte, Nat.reduceEqDiff, Nat.reduceAdd, Nat.reduceMul, Nat.reduceSub, Int.reduceToNat, Nat.reduceLeDiff, Int.reduceNeg, Int.reduceEq, Int.reduceLT, Int.reduceLE, Int.reduceBEq, Int.reduceBNe, Int.reduceToNat, dis])
    · (simp (disch := first | decide | omega | (intros; exact Eq.trans rfl rfl) | (simp only [puri]; done)) only [a44_0, rdV, vis, visL, visB, fillR, rowsAt, toDs, toD, ↓ops_cons, ↓ops_consz, fzTs, fzLs, rg, rd, o, oz, kc, kb, ks, kx, on, og, od, ogd, A.run, evI, evOpt, evs, evP, argF, V.cs, binD, fzV, fzL, fzVs, dataVs, dataLs, V.data, L.data, unD, fillL, List.take_succ_cons, List.take_zero, List.drop_succ_cons, List.drop_zero, List.cons_append, ne_eq, Nat.reduceLT, Nat.reduceBEq, ↓reduceIte, Nat.reduceEqDiff, Nat.reduceAdd, Nat.reduceMul, Nat.reduceSub, Int.reduceToNat, Nat.reduceLeDiff, Int.reduceNeg, Int.reduceEq, Int.reduceLT, Int.reduceLE, Int.reduceBEq, Int.reduceBNe, Int.reduceToNat, dis])
end Go.Proofs.Ytogleebbifpijaa
