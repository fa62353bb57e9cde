import Derived.Test.YtogleebbifpijaaD07
set_option linter.unusedSimpArgs false
set_option linter.unusedVariables false
namespace Go.Proofs.Ytogleebbifpijaa
open Go.Vi
set_option linter.unusedSimpArgs false

def nextV (r : List UInt8 × Nat × Int) : V := .tup [(false, [.d (.s r.1)]), (false, [.d (.i .i64 ((r.2.1 : Nat) : Int))]), (false, [.d (.i .i64 r.2.2)])]
theorem next_neg (s : List UInt8) (a : Int) (ha : a < 0) : call 25 [vs s, vi a] [] = some (nextV ([], 0, 2), []) := by
  apply enterS s25 rfl
  (simp (disch := first | decide | omega | (intros; exact Eq.trans rfl rfl) | (simp only [puri]; done)) only [a25, nextV, vis, visL, visB, fillR, rowsAt, toDs, toD, ↓ops_cons, ↓ops_consz, fzTs, fzLs, rg, rd, o, oz, kc, kb, ks, kx, on, og, od, ogd, A.run, evI, evOpt, evs, evP, argF, V.cs, binD, fzV, fzL, fzVs, dataVs, dataLs, V.data, L.data, unD, fillL, List.take_succ_cons, List.take_zero, List.drop_succ_cons, List.drop_zero, List.cons_append, ne_eq, Nat.reduceLT, Nat.reduceBEq, ↓reduceIte, Nat.reduceEqDiff, Nat.reduceAdd, Nat.reduceMul, Nat.reduceSub, Int.reduceToNat, Nat.reduceLeDiff, Int.reduceNeg, Int.reduceEq, Int.reduceLT, Int.reduceLE, Int.reduceBEq, Int.reduceBNe, Int.reduceToNat, dis])
  rfl
theorem refNext_neg (s : List UInt8) (a : Int) (ha : a < 0) : call 29 [vs s, vi a] [] = some (nextV ([], 0, 2), []) := by
  apply enterS s29 rfl
  (simp (disch := first | decide | omega | (intros; exact Eq.trans rfl rfl) | (simp only [puri]; done)) only [a29, nextV, vis, visL, visB, fillR, rowsAt, toDs, toD, ↓ops_cons, ↓ops_consz, fzTs, fzLs, rg, rd, o, oz, kc, kb, ks, kx, on, og, od, ogd, A.run, evI, evOpt, evs, evP, argF, V.cs, binD, fzV, fzL, fzVs, dataVs, dataLs, V.data, L.data, unD, fillL, List.take_succ_cons, List.take_zero, List.drop_succ_cons, List.drop_zero, List.cons_append, ne_eq, Nat.reduceLT, Nat.reduceBEq, ↓reduceIte, Nat.reduceEqDiff, Nat.reduceAdd, Nat.reduceMul, Nat.reduceSub, Int.reduceToNat, Nat.reduceLeDiff, Int.reduceNeg, Int.reduceEq, Int.reduceLT, Int.reduceLE, Int.reduceBEq, Int.reduceBNe, Int.reduceToNat, dis])
  rfl
theorem fits_nat (n : Nat) : call 41 [vi n] [] = some (vb (fitsN n), []) := by
  have := fits_spec n
  have e : (decide (1 ≤ (n : Int)) && decide ((n : Int) ≤ 65536)) = fitsN n := by
    unfold fitsN
    congr 1 <;> (rw [decide_eq_decide]; omega)
  rwa [e] at this

set_option maxRecDepth 8000 in
theorem next_spec (s : List UInt8) (a : Nat) (ha : a < 9223372036854775808) (hs : s.length ≤ 4611686018427387904) : call 25 [vs s, vi a] [] = some (nextV (nextF s a), []) := by
  apply enterS s25 rfl
  unfold nextF
  rcases Nat.lt_or_ge a s.length with hal | hal
  · have ho := open_spec (s.drop a) (by simp; omega)
    cases hop : openF (s.drop a) with
    | true =>
      rw [hop] at ho
      rw [if_pos (.inr rfl)]
      (simp (disch := first | decide | omega | (intros; exact Eq.trans rfl rfl) | (simp only [puri]; done)) only [a25, ho, nextV, vis, visL, visB, fillR, rowsAt, toDs, toD, ↓ops_cons, ↓ops_consz, fzTs, fzLs, rg, rd, o, oz, kc, kb, ks, kx, on, og, od, ogd, A.run, evI, evOpt, evs, evP, argF, V.cs, binD, fzV, fzL, fzVs, dataVs, dataLs, V.data, L.data, unD, fillL, List.take_succ_cons, List.take_zero, List.drop_succ_cons, List.drop_zero, List.cons_append, ne_eq, Nat.reduceLT, Nat.reduceBEq, ↓reduceIte, Nat.reduceEqDiff, Nat.reduceAdd, Nat.reduceMul, Nat.reduceSub, Int.reduceToNat, Nat.reduceLeDiff, Int.reduceNeg, Int.reduceEq, Int.reduceLT, Int.reduceLE, Int.reduceBEq, Int.reduceBNe, Int.reduceToNat, dis])
      rfl
    | false =>
      rw [hop] at ho
      rw [if_neg (by simp; omega)]
      have hrd := read_spec s a ha (by omega)
      cases hr : rdF (s.drop a) 0 0 with
      | none =>
        rw [hr] at hrd
        (simp (disch := first | decide | omega | (intros; exact Eq.trans rfl rfl) | (simp only [puri]; done)) only [a25, ho, hrd, rdV, nextV, vis, visL, visB, fillR, rowsAt, toDs, toD, ↓ops_cons, ↓ops_consz, fzTs, fzLs, rg, rd, o, oz, kc, kb, ks, kx, on, og, od, ogd, A.run, evI, evOpt, evs, evP, argF, V.cs, binD, fzV, fzL, fzVs, dataVs, dataLs, V.data, L.data, unD, fillL, List.take_succ_cons, List.take_zero, List.drop_succ_cons, List.drop_zero, List.cons_append, ne_eq, Nat.reduceLT, Nat.reduceBEq, ↓reduceIte, Nat.reduceEqDiff, Nat.reduceAdd, Nat.reduceMul, Nat.reduceSub, Int.reduceToNat, Nat.reduceLeDiff, Int.reduceNeg, Int.reduceEq, Int.reduceLT, Int.reduceLE, Int.reduceBEq, Int.reduceBNe, Int.reduceToNat, dis])
        rfl
      | some q =>
        obtain ⟨n, k⟩ := q
        rw [hr] at hrd
        obtain ⟨te, t1, t2, t3⟩ := take_drop_enc hr
        have hft := fits_nat n
        dsimp only
        by_cases hfn : fitsN n = false
        · rw [hfn] at hft
          rw [if_pos hfn]
          (simp (disch := first | decide | omega | (intros; exact Eq.trans rfl rfl) | (simp only [puri]; done)) only [a25, ho, hrd, rdV, hft, nextV, vis, visL, visB, fillR, rowsAt, toDs, toD, ↓ops_cons, ↓ops_consz, fzTs, fzLs, rg, rd, o, oz, kc, kb, ks, kx, on, og, od, ogd, A.run, evI, evOpt, evs, evP, argF, V.cs, binD, fzV, fzL, fzVs, dataVs, dataLs, V.data, L.data, unD, fillL, List.take_succ_cons, List.take_zero, List.drop_succ_cons, List.drop_zero, List.cons_append, ne_eq, Nat.reduceLT, Nat.reduceBEq, ↓reduceIte, Nat.reduceEqDiff, Nat.reduceAdd, Nat.reduceMul, Nat.reduceSub, Int.reduceToNat, Nat.reduceLeDiff, Int.reduceNeg, Int.reduceEq, Int.reduceLT, Int.reduceLE, Int.reduceBEq, Int.reduceBNe, Int.reduceToNat, dis])
          rfl
        · have hfn : fitsN n = true := by simpa using hfn
          rw [hfn] at hft
          have hn : 1 ≤ n ∧ n ≤ 65536 := by simpa [fitsN] using hfn
          have e1 : ((a + k : Nat) : Int) + 4 = ((a + k + 4 : Nat) : Int) := rfl
          have e3 : ((a + k + 4 : Nat) : Int) + ((n : Nat) : Int) = ((a + k + 4 + n : Nat) : Int) := rfl
          have e4 : IntKind.i64.wrap (((a + k + 4 : Nat) : Int) - 4) = ((a + k : Nat) : Int) := by rw [wrap_i (by omega)]; omega
          rw [if_neg (by rw [hfn]; decide)]
          by_cases hsh : s.length < a + k + 4 + n
          · rw [if_pos hsh]
            (simp (disch := first | decide | omega | (intros; exact Eq.trans rfl rfl) | (simp only [puri]; done)) only [a25, ho, hrd, rdV, hft, nextV, e1, vis, visL, visB, fillR, rowsAt, toDs, toD, ↓ops_cons, ↓ops_consz, fzTs, fzLs, rg, rd, o, oz, kc, kb, ks, kx, on, og, od, ogd, A.run, evI, evOpt, evs, evP, argF, V.cs, binD, fzV, fzL, fzVs, dataVs, dataLs, V.data, L.data, unD, fillL, List.take_succ_cons, List.take_zero, List.drop_succ_cons, List.drop_zero, List.cons_append, ne_eq, Nat.reduceLT, Nat.reduceBEq, ↓reduceIte, Nat.reduceEqDiff, Nat.reduceAdd, Nat.reduceMul, Nat.reduceSub, Int.reduceToNat, Nat.reduceLeDiff, Int.reduceNeg, Int.reduceEq, Int.reduceLT, Int.reduceLE, Int.reduceBEq, Int.reduceBNe, Int.reduceToNat, dis])
            rfl
          · rw [if_neg hsh]
            have hcs := crc2_spec (enc128 n) ((s.take (a + k + 4 + n)).drop (a + k + 4)) (by have : (enc128 n).length ≤ 9 := nd_le9 (n := n) (by omega); omega) (by simp; omega)
            have h4 := four_spec (crcOn 0#32 (enc128 n ++ (s.take (a + k + 4 + n)).drop (a + k + 4)))
            by_cases hq : four (crcOn 0#32 (enc128 n ++ (s.take (a + k + 4 + n)).drop (a + k + 4))) = (s.take (a + k + 4)).drop (a + k)
            · have hb : (four (crcOn 0#32 (enc128 n ++ (s.take (a + k + 4 + n)).drop (a + k + 4))) == (s.take (a + k + 4)).drop (a + k)) = true := by rw [beq_iff_eq]; exact hq
              rw [if_pos hq]
              (simp (disch := first | decide | omega | (intros; exact Eq.trans rfl rfl) | (simp only [puri]; done)) only [a25, ho, hrd, rdV, hft, nextV, e1, e3, e4, te, hcs, h4, hb, vis, visL, visB, fillR, rowsAt, toDs, toD, ↓ops_cons, ↓ops_consz, fzTs, fzLs, rg, rd, o, oz, kc, kb, ks, kx, on, og, od, ogd, A.run, evI, evOpt, evs, evP, argF, V.cs, binD, fzV, fzL, fzVs, dataVs, dataLs, V.data, L.data, unD, fillL, List.take_succ_cons, List.take_zero, List.drop_succ_cons, List.drop_zero, List.cons_append, ne_eq, Nat.reduceLT, Nat.reduceBEq, ↓reduceIte, Nat.reduceEqDiff, Nat.reduceAdd, Nat.reduceMul, Nat.reduceSub, Int.reduceToNat, Nat.reduceLeDiff, Int.reduceNeg, Int.reduceEq, Int.reduceLT, Int.reduceLE, Int.reduceBEq, Int.reduceBNe, Int.reduceToNat, dis])
            · have hb : (four (crcOn 0#32 (enc128 n ++ (s.take (a + k + 4 + n)).drop (a + k + 4))) == (s.take (a + k + 4)).drop (a + k)) = false := by rw [beq_eq_false_iff_ne]; exact hq
              rw [if_neg hq]
              (simp (disch := first | decide | omega | (intros; exact Eq.trans rfl rfl) | (simp only [puri]; done)) only [a25, ho, hrd, rdV, hft, nextV, e1, e3, e4, te, hcs, h4, hb, vis, visL, visB, fillR, rowsAt, toDs, toD, ↓ops_cons, ↓ops_consz, fzTs, fzLs, rg, rd, o, oz, kc, kb, ks, kx, on, og, od, ogd, A.run, evI, evOpt, evs, evP, argF, V.cs, binD, fzV, fzL, fzVs, dataVs, dataLs, V.data, L.data, unD, fillL, List.take_succ_cons, List.take_zero, List.drop_succ_cons, List.drop_zero, List.cons_append, ne_eq, Nat.reduceLT, Nat.reduceBEq, ↓reduceIte, Nat.reduceEqDiff, Nat.reduceAdd, Nat.reduceMul, Nat.reduceSub, Int.reduceToNat, Nat.reduceLeDiff, Int.reduceNeg, Int.reduceEq, Int.reduceLT, Int.reduceLE, Int.reduceBEq, Int.reduceBNe, Int.reduceToNat, dis])
              rfl
  · rw [if_pos (.inl hal)]
    (simp (disch := first | decide | omega | (intros; exact Eq.trans rfl rfl) | (simp only [puri]; done)) only [a25, nextV, vis, visL, visB, fillR, rowsAt, toDs, toD, ↓ops_cons, ↓ops_consz, fzTs, fzLs, rg, rd, o, oz, kc, kb, ks, kx, on, og, od, ogd, A.run, evI, evOpt, evs, evP, argF, V.cs, binD, fzV, fzL, fzVs, dataVs, dataLs, V.data, L.data, unD, fillL, List.take_succ_cons, List.take_zero, List.drop_succ_cons, List.drop_zero, List.cons_append, ne_eq, Nat.reduceLT, Nat.reduceBEq, ↓reduceIte, Nat.reduceEqDiff, Nat.reduceAdd, Nat.reduceMul, Nat.reduceSub, Int.reduceToNat, Nat.reduceLeDiff, Int.reduceNeg, Int.reduceEq, Int.reduceLT, Int.reduceLE, Int.reduceBEq, Int.reduceBNe, Int.reduceToNat, dis])
    rfl
set_option maxRecDepth 8000 in
theorem refNext_spec (s : List UInt8) (a : Nat) (ha : a < 9223372036854775808) (hs : s.length ≤ 4611686018427387904) : call 29 [vs s, vi a] [] = some (nextV (nextF s a), []) := by
  apply enterS s29 rfl
  unfold nextF
  rcases Nat.lt_or_ge a s.length with hal | hal
  · have ho := ends_spec s a (by omega) (by omega)
    cases hop : openF (s.drop a) with
    | true =>
      rw [hop] at ho
      rw [if_pos (.inr rfl)]
      (simp (disch := first | decide | omega | (intros; exact Eq.trans rfl rfl) | (simp only [puri]; done)) only [a29, ho, nextV, vis, visL, visB, fillR, rowsAt, toDs, toD, ↓ops_cons, ↓ops_consz, fzTs, fzLs, rg, rd, o, oz, kc, kb, ks, kx, on, og, od, ogd, A.run, evI, evOpt, evs, evP, argF, V.cs, binD, fzV, fzL, fzVs, dataVs, dataLs, V.data, L.data, unD, fillL, List.take_succ_cons, List.take_zero, List.drop_succ_cons, List.drop_zero, List.cons_append, ne_eq, Nat.reduceLT, Nat.reduceBEq, ↓reduceIte, Nat.reduceEqDiff, Nat.reduceAdd, Nat.reduceMul, Nat.reduceSub, Int.reduceToNat, Nat.reduceLeDiff, Int.reduceNeg, Int.reduceEq, Int.reduceLT, Int.reduceLE, Int.reduceBEq, Int.reduceBNe, Int.reduceToNat, dis])
      rfl
    | false =>
      rw [hop] at ho
      rw [if_neg (by simp; omega)]
      have hrd := refRead_spec s a ha (by omega)
      cases hr : rdF (s.drop a) 0 0 with
      | none =>
        rw [hr] at hrd
        (simp (disch := first | decide | omega | (intros; exact Eq.trans rfl rfl) | (simp only [puri]; done)) only [a29, ho, hrd, rdV, nextV, vis, visL, visB, fillR, rowsAt, toDs, toD, ↓ops_cons, ↓ops_consz, fzTs, fzLs, rg, rd, o, oz, kc, kb, ks, kx, on, og, od, ogd, A.run, evI, evOpt, evs, evP, argF, V.cs, binD, fzV, fzL, fzVs, dataVs, dataLs, V.data, L.data, unD, fillL, List.take_succ_cons, List.take_zero, List.drop_succ_cons, List.drop_zero, List.cons_append, ne_eq, Nat.reduceLT, Nat.reduceBEq, ↓reduceIte, Nat.reduceEqDiff, Nat.reduceAdd, Nat.reduceMul, Nat.reduceSub, Int.reduceToNat, Nat.reduceLeDiff, Int.reduceNeg, Int.reduceEq, Int.reduceLT, Int.reduceLE, Int.reduceBEq, Int.reduceBNe, Int.reduceToNat, dis])
        rfl
      | some q =>
        obtain ⟨n, k⟩ := q
        rw [hr] at hrd
        obtain ⟨te, t1, t2, t3⟩ := take_drop_enc hr
        dsimp only
        by_cases hfn : fitsN n = false
        · rw [if_pos hfn]
          have hn' : n < 1 ∨ 65536 < n := by
            simp only [fitsN, Bool.and_eq_false_iff, decide_eq_false_iff_not] at hfn; omega
          by_cases h0 : n < 1
          · (simp (disch := first | decide | omega | (intros; exact Eq.trans rfl rfl) | (simp only [puri]; done)) only [a29, ho, hrd, rdV, nextV, vis, visL, visB, fillR, rowsAt, toDs, toD, ↓ops_cons, ↓ops_consz, fzTs, fzLs, rg, rd, o, oz, kc, kb, ks, kx, on, og, od, ogd, A.run, evI, evOpt, evs, evP, argF, V.cs, binD, fzV, fzL, fzVs, dataVs, dataLs, V.data, L.data, unD, fillL, List.take_succ_cons, List.take_zero, List.drop_succ_cons, List.drop_zero, List.cons_append, ne_eq, Nat.reduceLT, Nat.reduceBEq, ↓reduceIte, Nat.reduceEqDiff, Nat.reduceAdd, Nat.reduceMul, Nat.reduceSub, Int.reduceToNat, Nat.reduceLeDiff, Int.reduceNeg, Int.reduceEq, Int.reduceLT, Int.reduceLE, Int.reduceBEq, Int.reduceBNe, Int.reduceToNat, dis])
            rfl
          · (simp (disch := first | decide | omega | (intros; exact Eq.trans rfl rfl) | (simp only [puri]; done)) only [a29, ho, hrd, rdV, nextV, vis, visL, visB, fillR, rowsAt, toDs, toD, ↓ops_cons, ↓ops_consz, fzTs, fzLs, rg, rd, o, oz, kc, kb, ks, kx, on, og, od, ogd, A.run, evI, evOpt, evs, evP, argF, V.cs, binD, fzV, fzL, fzVs, dataVs, dataLs, V.data, L.data, unD, fillL, List.take_succ_cons, List.take_zero, List.drop_succ_cons, List.drop_zero, List.cons_append, ne_eq, Nat.reduceLT, Nat.reduceBEq, ↓reduceIte, Nat.reduceEqDiff, Nat.reduceAdd, Nat.reduceMul, Nat.reduceSub, Int.reduceToNat, Nat.reduceLeDiff, Int.reduceNeg, Int.reduceEq, Int.reduceLT, Int.reduceLE, Int.reduceBEq, Int.reduceBNe, Int.reduceToNat, dis])
            rfl
        · have hfn : fitsN n = true := by simpa using hfn
          have hn : 1 ≤ n ∧ n ≤ 65536 := by simpa [fitsN] using hfn
          have e1 : ((a + k : Nat) : Int) + 4 = ((a + k + 4 : Nat) : Int) := rfl
          have e3 : ((a + k + 4 : Nat) : Int) + ((n : Nat) : Int) = ((a + k + 4 + n : Nat) : Int) := rfl
          have e4 : IntKind.i64.wrap (((a + k + 4 : Nat) : Int) - 4) = ((a + k : Nat) : Int) := by rw [wrap_i (by omega)]; omega
          rw [if_neg (by rw [hfn]; decide)]
          by_cases hsh : s.length < a + k + 4 + n
          · rw [if_pos hsh]
            (simp (disch := first | decide | omega | (intros; exact Eq.trans rfl rfl) | (simp only [puri]; done)) only [a29, ho, hrd, rdV, nextV, e1, vis, visL, visB, fillR, rowsAt, toDs, toD, ↓ops_cons, ↓ops_consz, fzTs, fzLs, rg, rd, o, oz, kc, kb, ks, kx, on, og, od, ogd, A.run, evI, evOpt, evs, evP, argF, V.cs, binD, fzV, fzL, fzVs, dataVs, dataLs, V.data, L.data, unD, fillL, List.take_succ_cons, List.take_zero, List.drop_succ_cons, List.drop_zero, List.cons_append, ne_eq, Nat.reduceLT, Nat.reduceBEq, ↓reduceIte, Nat.reduceEqDiff, Nat.reduceAdd, Nat.reduceMul, Nat.reduceSub, Int.reduceToNat, Nat.reduceLeDiff, Int.reduceNeg, Int.reduceEq, Int.reduceLT, Int.reduceLE, Int.reduceBEq, Int.reduceBNe, Int.reduceToNat, dis])
            rfl
          · rw [if_neg hsh]
            have htl : ((s.take (a + k + 4 + n)).drop (a + k + 4)).length = n := by simp; omega
            have hpf := refPutFrame_spec ((s.take (a + k + 4 + n)).drop (a + k + 4)) (by omega)
            unfold putV at hpf
            rw [htl, if_pos hn] at hpf
            have hsp : (s.take (a + k + 4 + n)).drop a = enc128 n ++ (s.take (a + k + 4)).drop (a + k) ++ (s.take (a + k + 4 + n)).drop (a + k + 4) := by
              rw [← te]
              have s1 : ∀ (l : List UInt8) (i j m : Nat), i ≤ j → j ≤ m → (l.take m).drop i = (l.take j).drop i ++ (l.take m).drop j := by
                intro l i j m hij hjm
                have e : l.take m = l.take j ++ (l.take m).drop j := by
                  conv => lhs; rw [← List.take_append_drop j (l.take m), List.take_take, Nat.min_eq_left hjm]
                rcases Nat.lt_or_ge l.length j with hlj | hlj
                · have : (l.take m).drop j = [] := List.drop_eq_nil_of_le (by simp; omega)
                  rw [this, List.append_nil, List.take_of_length_le (by omega), List.take_of_length_le (by omega)]
                · conv => lhs; rw [e]
                  rw [List.drop_append_of_le_length (by simp; omega)]
              rw [s1 s a (a + k) (a + k + 4 + n) (by omega) (by omega), s1 s (a + k) (a + k + 4) (a + k + 4 + n) (by omega) (by omega), List.append_assoc]
            have hto : ((a + k + 4 + n : Nat) : Int).toNat = a + k + 4 + n := rfl
            have e5 : 4 + ((n : Nat) : Int) = ((4 + n : Nat) : Int) := rfl
            have hff : frameF ((s.take (a + k + 4 + n)).drop (a + k + 4)) = enc128 n ++ four (crcOn 0#32 (enc128 n ++ (s.take (a + k + 4 + n)).drop (a + k + 4))) ++ (s.take (a + k + 4 + n)).drop (a + k + 4) := by
              unfold frameF; rw [htl]
            by_cases hq : four (crcOn 0#32 (enc128 n ++ (s.take (a + k + 4 + n)).drop (a + k + 4))) = (s.take (a + k + 4)).drop (a + k)
            · have hb : (frameF ((s.take (a + k + 4 + n)).drop (a + k + 4)) == (s.take (a + k + 4 + n)).drop a) = true := by rw [beq_iff_eq, hff, hsp, hq]
              rw [if_pos hq]
              (simp (disch := first | decide | omega | (intros; exact Eq.trans rfl rfl) | (simp only [puri]; done)) only [a29, ho, hrd, rdV, nextV, e1, e3, e5, hpf, hb, vis, visL, visB, fillR, rowsAt, toDs, toD, ↓ops_cons, ↓ops_consz, fzTs, fzLs, rg, rd, o, oz, kc, kb, ks, kx, on, og, od, ogd, A.run, evI, evOpt, evs, evP, argF, V.cs, binD, fzV, fzL, fzVs, dataVs, dataLs, V.data, L.data, unD, fillL, List.take_succ_cons, List.take_zero, List.drop_succ_cons, List.drop_zero, List.cons_append, ne_eq, Nat.reduceLT, Nat.reduceBEq, ↓reduceIte, Nat.reduceEqDiff, Nat.reduceAdd, Nat.reduceMul, Nat.reduceSub, Int.reduceToNat, Nat.reduceLeDiff, Int.reduceNeg, Int.reduceEq, Int.reduceLT, Int.reduceLE, Int.reduceBEq, Int.reduceBNe, Int.reduceToNat, dis])
            · have hb : (frameF ((s.take (a + k + 4 + n)).drop (a + k + 4)) == (s.take (a + k + 4 + n)).drop a) = false := by
                rw [beq_eq_false_iff_ne, hff, hsp]
                intro he
                exact hq (List.append_cancel_left (List.append_cancel_right he))
              rw [if_neg hq]
              (simp (disch := first | decide | omega | (intros; exact Eq.trans rfl rfl) | (simp only [puri]; done)) only [a29, ho, hrd, rdV, nextV, e1, e3, e5, hpf, hb, vis, visL, visB, fillR, rowsAt, toDs, toD, ↓ops_cons, ↓ops_consz, fzTs, fzLs, rg, rd, o, oz, kc, kb, ks, kx, on, og, od, ogd, A.run, evI, evOpt, evs, evP, argF, V.cs, binD, fzV, fzL, fzVs, dataVs, dataLs, V.data, L.data, unD, fillL, List.take_succ_cons, List.take_zero, List.drop_succ_cons, List.drop_zero, List.cons_append, ne_eq, Nat.reduceLT, Nat.reduceBEq, ↓reduceIte, Nat.reduceEqDiff, Nat.reduceAdd, Nat.reduceMul, Nat.reduceSub, Int.reduceToNat, Nat.reduceLeDiff, Int.reduceNeg, Int.reduceEq, Int.reduceLT, Int.reduceLE, Int.reduceBEq, Int.reduceBNe, Int.reduceToNat, dis])
              rfl
  · rw [if_pos (.inl hal)]
    (simp (disch := first | decide | omega | (intros; exact Eq.trans rfl rfl) | (simp only [puri]; done)) only [a29, nextV, vis, visL, visB, fillR, rowsAt, toDs, toD, ↓ops_cons, ↓ops_consz, fzTs, fzLs, rg, rd, o, oz, kc, kb, ks, kx, on, og, od, ogd, A.run, evI, evOpt, evs, evP, argF, V.cs, binD, fzV, fzL, fzVs, dataVs, dataLs, V.data, L.data, unD, fillL, List.take_succ_cons, List.take_zero, List.drop_succ_cons, List.drop_zero, List.cons_append, ne_eq, Nat.reduceLT, Nat.reduceBEq, ↓reduceIte, Nat.reduceEqDiff, Nat.reduceAdd, Nat.reduceMul, Nat.reduceSub, Int.reduceToNat, Nat.reduceLeDiff, Int.reduceNeg, Int.reduceEq, Int.reduceLT, Int.reduceLE, Int.reduceBEq, Int.reduceBNe, Int.reduceToNat, dis])
    rfl
end Go.Proofs.Ytogleebbifpijaa
