import Derived.Test.YtaaonidocakiiaaP22e
set_option linter.unusedSimpArgs false
set_option linter.unusedVariables false
namespace Go.Proofs.Ytaaonidocakiiaa
open Go.Vi
set_option linter.unusedSimpArgs false

set_option maxRecDepth 20000 in
set_option maxHeartbeats 4000000 in
theorem law4 (q : List Entry) (hq : q.length ≤ 9223372036854775807) (e : Entry) (n0 n1 n2 : Int) :
    call 4 [vl (q.map Entry.enc), va e.enc, .agg [.d (.i .i64 n0), .d (.i .i64 n1), .d (.i .i64 n2)]] [] = some (vb true, []) := by
  apply enterS s4 rfl
  have hm := may_spec q hq
  have haw := awake_spec
  cases hmay : mayF q with
  | false => rw [hmay] at hm; (simp (disch := first | decide | omega | (intros; exact Eq.trans rfl rfl) | (simp only [puri]; done)) only [a4, hm, haw, vis, visL, visB, fillR, rowsAt, toDs, toD, ↓ops_cons, ↓ops_consz, fzTs, fzLs, rg, rd, o, oz, kc, kb, ks, kx, on, og, od, ogd, A.run, evI, evOpt, evs, evP, argF, V.cs, binD, fzV, fzL, dataVs, dataLs, V.data, L.data, unD, fillL, List.take_succ_cons, List.take_zero, List.drop_succ_cons, List.drop_zero, List.cons_append, ne_eq, Nat.reduceLT, Nat.reduceBEq, ↓reduceIte, Nat.reduceEqDiff, Nat.reduceAdd, Nat.reduceMul, Nat.reduceSub, Int.reduceToNat, Nat.reduceLeDiff, Int.reduceNeg, Int.reduceToNat, dis])
  | true =>
    rw [hmay] at hm
    simp only [mayF, Bool.and_eq_true, decide_eq_true_eq] at hmay
    obtain ⟨h100, _, hr⟩ := hmay
    by_cases hd : e.data.length ≤ 300
    · obtain ⟨K, hK, hx1, hx2⟩ : ∃ K : Int, firstF q = K ∧ -1 ≤ K ∧ K < q.length := by
        refine ⟨_, rfl, (idx_lt _ q).1, ?_⟩
        rcases (idx_lt (fun e : Entry => decide (e.at_ < 0)) q).2 with h | h
        · exact h
        · have : firstF q = -1 := h
          omega
      have f1 := first_spec q hq
      have f2 := refFirst_spec q hq
      rw [hK] at f1 f2
      have a1 := add_spec q e.ticket e.data n0 (by omega)
      have a2 := refAdd_spec q e.ticket e.data n0 (by omega)
      have r1 := release_spec q n1 hq
      have r2 := refRelease_spec q n1 (by omega)
      rw [(split_rel n1 q hr).1, (split_rel n1 q hr).2] at r2
      have hrl := rel_le n1 q
      have sm : ∀ a : List Entry, a.length ≤ 200 → call 13 [vl (a.map Entry.enc), vl (a.map Entry.enc)] [] = some (vb true, []) := by
        intro a ha
        have := same_spec a a (by omega)
        simpa using this
      have s0 := sm q (by omega)
      have s1 := sm (q.drop (relN n1 q 0)) (by simp; omega)
      have s2 := sm (q.take (relN n1 q 0)) (by simp; omega)
      -- the list with one more
      obtain ⟨ad, x, hA, a1, a2⟩ : ∃ (ad : List Entry) (x : Int), ad.length ≤ 200 ∧ call 10 [vl (q.map Entry.enc), vi e.ticket, vs e.data, vi n0] [] = some (.tup [vq ad, (false, [.d (.i .i64 x)])], []) ∧
          call 11 [vl (q.map Entry.enc), vi e.ticket, vs e.data, vi n0] [] = some (.tup [vq ad, (false, [.d (.i .i64 x)])], []) := by
        by_cases c : n0 ≤ q.length
        · rw [if_pos c] at a1 a2; exact ⟨q, 12, by omega, a1, a2⟩
        · rw [if_neg c] at a1 a2; exact ⟨_, 0, by simp; omega, a1, a2⟩
      have s3 := sm ad hA
      have hz : ∀ H, fzLs (e.enc.map .d) H = some (e.enc.map .d, H) := fzLs_map e.enc
      -- the one that goes
      have dd : ∀ i : Nat, (hi : i < q.length) → ∃ B : List Entry, B.length ≤ 200 ∧ call 15 [vl (q.map Entry.enc), vi i] [] = some (vl (B.map Entry.enc), []) ∧ call 16 [vl (q.map Entry.enc), vi i] [] = some (vl (B.map Entry.enc), []) :=
        fun i hi => ⟨_, by simp; omega, drop_spec q i hi (by omega), refDrop_spec q i hi (by omega)⟩
      have ww : ∀ i : Nat, (hi : i < q.length) → ∃ B : List Entry, B.length ≤ 200 ∧ call 17 [vl (q.map Entry.enc), vi i, vi n1] [] = some (vl (B.map Entry.enc), []) ∧ call 18 [vl (q.map Entry.enc), vi i, vi n1] [] = some (vl (B.map Entry.enc), []) :=
        fun i hi => ⟨_, by rw [writeF_in q i n1 hi]; simp; omega, write_spec q i n1 hi (by omega), refWrite_spec q i n1 hi (by omega)⟩
      have tri : n2 < 0 ∨ (∃ i2 : Nat, n2 = i2 ∧ i2 < q.length) ∨ (0 ≤ n2 ∧ (q.length : Int) ≤ n2) := by
        rcases Int.lt_or_le n2 0 with h | h
        · exact .inl h
        · rcases Int.lt_or_le n2 q.length with h' | h'
          · exact .inr (.inl ⟨n2.toNat, by omega, by omega⟩)
          · exact .inr (.inr ⟨h, h'⟩)
      have wri : K < 0 ∨ (∃ i : Nat, K = i ∧ i < q.length) := by
        rcases Int.lt_or_le K 0 with h | h
        · exact .inl h
        · exact .inr ⟨K.toNat, by omega, by omega⟩
      rcases tri with h2 | ⟨i2, rfl, hi2⟩ | ⟨h2, h2'⟩
      · skip
        rcases wri with hK0 | ⟨i, rfl, hi⟩
        · (simp (disch := first | decide | omega | (intros; exact Eq.trans rfl rfl) | (simp only [puri]; done)) only [a4, hm, haw, Entry.fd1, Entry.fd0, hz, f1, f2, a1, a2, r1, r2, s0, s1, s2, s3, vq, vis, visL, visB, fillR, rowsAt, toDs, toD, ↓ops_cons, ↓ops_consz, fzTs, fzLs, rg, rd, o, oz, kc, kb, ks, kx, on, og, od, ogd, A.run, evI, evOpt, evs, evP, argF, V.cs, binD, fzV, fzL, dataVs, dataLs, V.data, L.data, unD, fillL, List.take_succ_cons, List.take_zero, List.drop_succ_cons, List.drop_zero, List.cons_append, ne_eq, Nat.reduceLT, Nat.reduceBEq, ↓reduceIte, Nat.reduceEqDiff, Nat.reduceAdd, Nat.reduceMul, Nat.reduceSub, Int.reduceToNat, Nat.reduceLeDiff, Int.reduceNeg, Int.reduceToNat, dis])
        · by_cases hn1 : 0 ≤ n1
          · obtain ⟨B3, hB3, w1, w2⟩ := ww i hi
            have s5 := sm B3 hB3
            by_cases hi0 : i = 0
            · subst hi0
              have w1 : call 17 [vl (q.map Entry.enc), vi 0, vi n1] [] = some (vl (B3.map Entry.enc), []) := w1
              have w2 : call 18 [vl (q.map Entry.enc), vi 0, vi n1] [] = some (vl (B3.map Entry.enc), []) := w2
              have f1 : call 8 [vl (q.map Entry.enc)] [] = some (vi 0, []) := f1
              have f2 : call 14 [vl (q.map Entry.enc)] [] = some (vi 0, []) := f2
              (simp (disch := first | decide | omega | (intros; exact Eq.trans rfl rfl) | (simp only [puri]; done)) only [a4, hm, haw, Entry.fd1, Entry.fd0, hz, f1, f2, a1, a2, r1, r2, s0, s1, s2, s3, vq, w1, w2, s5, vis, visL, visB, fillR, rowsAt, toDs, toD, ↓ops_cons, ↓ops_consz, fzTs, fzLs, rg, rd, o, oz, kc, kb, ks, kx, on, og, od, ogd, A.run, evI, evOpt, evs, evP, argF, V.cs, binD, fzV, fzL, dataVs, dataLs, V.data, L.data, unD, fillL, List.take_succ_cons, List.take_zero, List.drop_succ_cons, List.drop_zero, List.cons_append, ne_eq, Nat.reduceLT, Nat.reduceBEq, ↓reduceIte, Nat.reduceEqDiff, Nat.reduceAdd, Nat.reduceMul, Nat.reduceSub, Int.reduceToNat, Nat.reduceLeDiff, Int.reduceNeg, Int.reduceToNat, dis])
            · have hw : IntKind.i64.wrap ((i : Int) - 1) = ((i - 1 : Nat) : Int) := by rw [wrap_i (by omega)]; omega
              by_cases hl : q[i - 1].at_ < n1
              · (simp (disch := first | decide | omega | (intros; exact Eq.trans rfl rfl) | (simp only [puri]; done)) only [a4, hm, haw, Entry.fd1, Entry.fd0, hz, f1, f2, a1, a2, r1, r2, s0, s1, s2, s3, vq, w1, w2, s5, hw, Entry.len, Entry.at2, vis, visL, visB, fillR, rowsAt, toDs, toD, ↓ops_cons, ↓ops_consz, fzTs, fzLs, rg, rd, o, oz, kc, kb, ks, kx, on, og, od, ogd, A.run, evI, evOpt, evs, evP, argF, V.cs, binD, fzV, fzL, dataVs, dataLs, V.data, L.data, unD, fillL, List.take_succ_cons, List.take_zero, List.drop_succ_cons, List.drop_zero, List.cons_append, ne_eq, Nat.reduceLT, Nat.reduceBEq, ↓reduceIte, Nat.reduceEqDiff, Nat.reduceAdd, Nat.reduceMul, Nat.reduceSub, Int.reduceToNat, Nat.reduceLeDiff, Int.reduceNeg, Int.reduceToNat, dis])
              · (simp (disch := first | decide | omega | (intros; exact Eq.trans rfl rfl) | (simp only [puri]; done)) only [a4, hm, haw, Entry.fd1, Entry.fd0, hz, f1, f2, a1, a2, r1, r2, s0, s1, s2, s3, vq, hw, Entry.len, Entry.at2, vis, visL, visB, fillR, rowsAt, toDs, toD, ↓ops_cons, ↓ops_consz, fzTs, fzLs, rg, rd, o, oz, kc, kb, ks, kx, on, og, od, ogd, A.run, evI, evOpt, evs, evP, argF, V.cs, binD, fzV, fzL, dataVs, dataLs, V.data, L.data, unD, fillL, List.take_succ_cons, List.take_zero, List.drop_succ_cons, List.drop_zero, List.cons_append, ne_eq, Nat.reduceLT, Nat.reduceBEq, ↓reduceIte, Nat.reduceEqDiff, Nat.reduceAdd, Nat.reduceMul, Nat.reduceSub, Int.reduceToNat, Nat.reduceLeDiff, Int.reduceNeg, Int.reduceToNat, dis])
          · (simp (disch := first | decide | omega | (intros; exact Eq.trans rfl rfl) | (simp only [puri]; done)) only [a4, hm, haw, Entry.fd1, Entry.fd0, hz, f1, f2, a1, a2, r1, r2, s0, s1, s2, s3, vq, vis, visL, visB, fillR, rowsAt, toDs, toD, ↓ops_cons, ↓ops_consz, fzTs, fzLs, rg, rd, o, oz, kc, kb, ks, kx, on, og, od, ogd, A.run, evI, evOpt, evs, evP, argF, V.cs, binD, fzV, fzL, dataVs, dataLs, V.data, L.data, unD, fillL, List.take_succ_cons, List.take_zero, List.drop_succ_cons, List.drop_zero, List.cons_append, ne_eq, Nat.reduceLT, Nat.reduceBEq, ↓reduceIte, Nat.reduceEqDiff, Nat.reduceAdd, Nat.reduceMul, Nat.reduceSub, Int.reduceToNat, Nat.reduceLeDiff, Int.reduceNeg, Int.reduceToNat, dis])
      · obtain ⟨B2, hB2, d1, d2⟩ := dd i2 hi2
        have s4 := sm B2 hB2
        rcases wri with hK0 | ⟨i, rfl, hi⟩
        · (simp (disch := first | decide | omega | (intros; exact Eq.trans rfl rfl) | (simp only [puri]; done)) only [a4, hm, haw, Entry.fd1, Entry.fd0, hz, f1, f2, a1, a2, r1, r2, s0, s1, s2, s3, vq, d1, d2, s4, vis, visL, visB, fillR, rowsAt, toDs, toD, ↓ops_cons, ↓ops_consz, fzTs, fzLs, rg, rd, o, oz, kc, kb, ks, kx, on, og, od, ogd, A.run, evI, evOpt, evs, evP, argF, V.cs, binD, fzV, fzL, dataVs, dataLs, V.data, L.data, unD, fillL, List.take_succ_cons, List.take_zero, List.drop_succ_cons, List.drop_zero, List.cons_append, ne_eq, Nat.reduceLT, Nat.reduceBEq, ↓reduceIte, Nat.reduceEqDiff, Nat.reduceAdd, Nat.reduceMul, Nat.reduceSub, Int.reduceToNat, Nat.reduceLeDiff, Int.reduceNeg, Int.reduceToNat, dis])
        · by_cases hn1 : 0 ≤ n1
          · obtain ⟨B3, hB3, w1, w2⟩ := ww i hi
            have s5 := sm B3 hB3
            by_cases hi0 : i = 0
            · subst hi0
              have w1 : call 17 [vl (q.map Entry.enc), vi 0, vi n1] [] = some (vl (B3.map Entry.enc), []) := w1
              have w2 : call 18 [vl (q.map Entry.enc), vi 0, vi n1] [] = some (vl (B3.map Entry.enc), []) := w2
              have f1 : call 8 [vl (q.map Entry.enc)] [] = some (vi 0, []) := f1
              have f2 : call 14 [vl (q.map Entry.enc)] [] = some (vi 0, []) := f2
              (simp (disch := first | decide | omega | (intros; exact Eq.trans rfl rfl) | (simp only [puri]; done)) only [a4, hm, haw, Entry.fd1, Entry.fd0, hz, f1, f2, a1, a2, r1, r2, s0, s1, s2, s3, vq, d1, d2, s4, w1, w2, s5, vis, visL, visB, fillR, rowsAt, toDs, toD, ↓ops_cons, ↓ops_consz, fzTs, fzLs, rg, rd, o, oz, kc, kb, ks, kx, on, og, od, ogd, A.run, evI, evOpt, evs, evP, argF, V.cs, binD, fzV, fzL, dataVs, dataLs, V.data, L.data, unD, fillL, List.take_succ_cons, List.take_zero, List.drop_succ_cons, List.drop_zero, List.cons_append, ne_eq, Nat.reduceLT, Nat.reduceBEq, ↓reduceIte, Nat.reduceEqDiff, Nat.reduceAdd, Nat.reduceMul, Nat.reduceSub, Int.reduceToNat, Nat.reduceLeDiff, Int.reduceNeg, Int.reduceToNat, dis])
            · have hw : IntKind.i64.wrap ((i : Int) - 1) = ((i - 1 : Nat) : Int) := by rw [wrap_i (by omega)]; omega
              by_cases hl : q[i - 1].at_ < n1
              · (simp (disch := first | decide | omega | (intros; exact Eq.trans rfl rfl) | (simp only [puri]; done)) only [a4, hm, haw, Entry.fd1, Entry.fd0, hz, f1, f2, a1, a2, r1, r2, s0, s1, s2, s3, vq, d1, d2, s4, w1, w2, s5, hw, Entry.len, Entry.at2, vis, visL, visB, fillR, rowsAt, toDs, toD, ↓ops_cons, ↓ops_consz, fzTs, fzLs, rg, rd, o, oz, kc, kb, ks, kx, on, og, od, ogd, A.run, evI, evOpt, evs, evP, argF, V.cs, binD, fzV, fzL, dataVs, dataLs, V.data, L.data, unD, fillL, List.take_succ_cons, List.take_zero, List.drop_succ_cons, List.drop_zero, List.cons_append, ne_eq, Nat.reduceLT, Nat.reduceBEq, ↓reduceIte, Nat.reduceEqDiff, Nat.reduceAdd, Nat.reduceMul, Nat.reduceSub, Int.reduceToNat, Nat.reduceLeDiff, Int.reduceNeg, Int.reduceToNat, dis])
              · (simp (disch := first | decide | omega | (intros; exact Eq.trans rfl rfl) | (simp only [puri]; done)) only [a4, hm, haw, Entry.fd1, Entry.fd0, hz, f1, f2, a1, a2, r1, r2, s0, s1, s2, s3, vq, d1, d2, s4, hw, Entry.len, Entry.at2, vis, visL, visB, fillR, rowsAt, toDs, toD, ↓ops_cons, ↓ops_consz, fzTs, fzLs, rg, rd, o, oz, kc, kb, ks, kx, on, og, od, ogd, A.run, evI, evOpt, evs, evP, argF, V.cs, binD, fzV, fzL, dataVs, dataLs, V.data, L.data, unD, fillL, List.take_succ_cons, List.take_zero, List.drop_succ_cons, List.drop_zero, List.cons_append, ne_eq, Nat.reduceLT, Nat.reduceBEq, ↓reduceIte, Nat.reduceEqDiff, Nat.reduceAdd, Nat.reduceMul, Nat.reduceSub, Int.reduceToNat, Nat.reduceLeDiff, Int.reduceNeg, Int.reduceToNat, dis])
          · (simp (disch := first | decide | omega | (intros; exact Eq.trans rfl rfl) | (simp only [puri]; done)) only [a4, hm, haw, Entry.fd1, Entry.fd0, hz, f1, f2, a1, a2, r1, r2, s0, s1, s2, s3, vq, d1, d2, s4, vis, visL, visB, fillR, rowsAt, toDs, toD, ↓ops_cons, ↓ops_consz, fzTs, fzLs, rg, rd, o, oz, kc, kb, ks, kx, on, og, od, ogd, A.run, evI, evOpt, evs, evP, argF, V.cs, binD, fzV, fzL, dataVs, dataLs, V.data, L.data, unD, fillL, List.take_succ_cons, List.take_zero, List.drop_succ_cons, List.drop_zero, List.cons_append, ne_eq, Nat.reduceLT, Nat.reduceBEq, ↓reduceIte, Nat.reduceEqDiff, Nat.reduceAdd, Nat.reduceMul, Nat.reduceSub, Int.reduceToNat, Nat.reduceLeDiff, Int.reduceNeg, Int.reduceToNat, dis])
      · skip
        rcases wri with hK0 | ⟨i, rfl, hi⟩
        · (simp (disch := first | decide | omega | (intros; exact Eq.trans rfl rfl) | (simp only [puri]; done)) only [a4, hm, haw, Entry.fd1, Entry.fd0, hz, f1, f2, a1, a2, r1, r2, s0, s1, s2, s3, vq, vis, visL, visB, fillR, rowsAt, toDs, toD, ↓ops_cons, ↓ops_consz, fzTs, fzLs, rg, rd, o, oz, kc, kb, ks, kx, on, og, od, ogd, A.run, evI, evOpt, evs, evP, argF, V.cs, binD, fzV, fzL, dataVs, dataLs, V.data, L.data, unD, fillL, List.take_succ_cons, List.take_zero, List.drop_succ_cons, List.drop_zero, List.cons_append, ne_eq, Nat.reduceLT, Nat.reduceBEq, ↓reduceIte, Nat.reduceEqDiff, Nat.reduceAdd, Nat.reduceMul, Nat.reduceSub, Int.reduceToNat, Nat.reduceLeDiff, Int.reduceNeg, Int.reduceToNat, dis])
        · by_cases hn1 : 0 ≤ n1
          · obtain ⟨B3, hB3, w1, w2⟩ := ww i hi
            have s5 := sm B3 hB3
            by_cases hi0 : i = 0
            · subst hi0
              have w1 : call 17 [vl (q.map Entry.enc), vi 0, vi n1] [] = some (vl (B3.map Entry.enc), []) := w1
              have w2 : call 18 [vl (q.map Entry.enc), vi 0, vi n1] [] = some (vl (B3.map Entry.enc), []) := w2
              have f1 : call 8 [vl (q.map Entry.enc)] [] = some (vi 0, []) := f1
              have f2 : call 14 [vl (q.map Entry.enc)] [] = some (vi 0, []) := f2
              (simp (disch := first | decide | omega | (intros; exact Eq.trans rfl rfl) | (simp only [puri]; done)) only [a4, hm, haw, Entry.fd1, Entry.fd0, hz, f1, f2, a1, a2, r1, r2, s0, s1, s2, s3, vq, w1, w2, s5, vis, visL, visB, fillR, rowsAt, toDs, toD, ↓ops_cons, ↓ops_consz, fzTs, fzLs, rg, rd, o, oz, kc, kb, ks, kx, on, og, od, ogd, A.run, evI, evOpt, evs, evP, argF, V.cs, binD, fzV, fzL, dataVs, dataLs, V.data, L.data, unD, fillL, List.take_succ_cons, List.take_zero, List.drop_succ_cons, List.drop_zero, List.cons_append, ne_eq, Nat.reduceLT, Nat.reduceBEq, ↓reduceIte, Nat.reduceEqDiff, Nat.reduceAdd, Nat.reduceMul, Nat.reduceSub, Int.reduceToNat, Nat.reduceLeDiff, Int.reduceNeg, Int.reduceToNat, dis])
            · have hw : IntKind.i64.wrap ((i : Int) - 1) = ((i - 1 : Nat) : Int) := by rw [wrap_i (by omega)]; omega
              by_cases hl : q[i - 1].at_ < n1
              · (simp (disch := first | decide | omega | (intros; exact Eq.trans rfl rfl) | (simp only [puri]; done)) only [a4, hm, haw, Entry.fd1, Entry.fd0, hz, f1, f2, a1, a2, r1, r2, s0, s1, s2, s3, vq, w1, w2, s5, hw, Entry.len, Entry.at2, vis, visL, visB, fillR, rowsAt, toDs, toD, ↓ops_cons, ↓ops_consz, fzTs, fzLs, rg, rd, o, oz, kc, kb, ks, kx, on, og, od, ogd, A.run, evI, evOpt, evs, evP, argF, V.cs, binD, fzV, fzL, dataVs, dataLs, V.data, L.data, unD, fillL, List.take_succ_cons, List.take_zero, List.drop_succ_cons, List.drop_zero, List.cons_append, ne_eq, Nat.reduceLT, Nat.reduceBEq, ↓reduceIte, Nat.reduceEqDiff, Nat.reduceAdd, Nat.reduceMul, Nat.reduceSub, Int.reduceToNat, Nat.reduceLeDiff, Int.reduceNeg, Int.reduceToNat, dis])
              · (simp (disch := first | decide | omega | (intros; exact Eq.trans rfl rfl) | (simp only [puri]; done)) only [a4, hm, haw, Entry.fd1, Entry.fd0, hz, f1, f2, a1, a2, r1, r2, s0, s1, s2, s3, vq, hw, Entry.len, Entry.at2, vis, visL, visB, fillR, rowsAt, toDs, toD, ↓ops_cons, ↓ops_consz, fzTs, fzLs, rg, rd, o, oz, kc, kb, ks, kx, on, og, od, ogd, A.run, evI, evOpt, evs, evP, argF, V.cs, binD, fzV, fzL, dataVs, dataLs, V.data, L.data, unD, fillL, List.take_succ_cons, List.take_zero, List.drop_succ_cons, List.drop_zero, List.cons_append, ne_eq, Nat.reduceLT, Nat.reduceBEq, ↓reduceIte, Nat.reduceEqDiff, Nat.reduceAdd, Nat.reduceMul, Nat.reduceSub, Int.reduceToNat, Nat.reduceLeDiff, Int.reduceNeg, Int.reduceToNat, dis])
          · (simp (disch := first | decide | omega | (intros; exact Eq.trans rfl rfl) | (simp only [puri]; done)) only [a4, hm, haw, Entry.fd1, Entry.fd0, hz, f1, f2, a1, a2, r1, r2, s0, s1, s2, s3, vq, vis, visL, visB, fillR, rowsAt, toDs, toD, ↓ops_cons, ↓ops_consz, fzTs, fzLs, rg, rd, o, oz, kc, kb, ks, kx, on, og, od, ogd, A.run, evI, evOpt, evs, evP, argF, V.cs, binD, fzV, fzL, dataVs, dataLs, V.data, L.data, unD, fillL, List.take_succ_cons, List.take_zero, List.drop_succ_cons, List.drop_zero, List.cons_append, ne_eq, Nat.reduceLT, Nat.reduceBEq, ↓reduceIte, Nat.reduceEqDiff, Nat.reduceAdd, Nat.reduceMul, Nat.reduceSub, Int.reduceToNat, Nat.reduceLeDiff, Int.reduceNeg, Int.reduceToNat, dis])
    · (simp (disch := first | decide | omega | (intros; exact Eq.trans rfl rfl) | (simp only [puri]; done)) only [a4, hm, haw, Entry.fd1, vis, visL, visB, fillR, rowsAt, toDs, toD, ↓ops_cons, ↓ops_consz, fzTs, fzLs, rg, rd, o, oz, kc, kb, ks, kx, on, og, od, ogd, A.run, evI, evOpt, evs, evP, argF, V.cs, binD, fzV, fzL, dataVs, dataLs, V.data, L.data, unD, fillL, List.take_succ_cons, List.take_zero, List.drop_succ_cons, List.drop_zero, List.cons_append, ne_eq, Nat.reduceLT, Nat.reduceBEq, ↓reduceIte, Nat.reduceEqDiff, Nat.reduceAdd, Nat.reduceMul, Nat.reduceSub, Int.reduceToNat, Nat.reduceLeDiff, Int.reduceNeg, Int.reduceToNat, dis])
end Go.Proofs.Ytaaonidocakiiaa
