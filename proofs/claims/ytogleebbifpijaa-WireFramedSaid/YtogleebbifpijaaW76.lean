import Derived.Test.YtogleebbifpijaaW75
set_option linter.unusedSimpArgs false
set_option linter.unusedVariables false
namespace Go.Proofs.Ytogleebbifpijaa
open Go.Vi
set_option linter.unusedSimpArgs false

theorem four_sum (m : Msg) (h : 0 ≤ m.sum ∧ m.sum < 4294967296) : call 21 [.one (.d (.i .u32 m.sum))] [] = some (vs (four (sumW m)), []) := by
  have := four_spec (sumW m)
  have e : (((sumW m).toNat : Nat) : Int) = m.sum := by unfold sumW; simp; omega
  rwa [e] at this
theorem refFour_sum (m : Msg) (h : 0 ≤ m.sum ∧ m.sum < 4294967296) : call 24 [.one (.d (.i .u32 m.sum))] [] = some (vs (four (sumW m)), []) := by
  have := refFour_spec (sumW m)
  have e : (((sumW m).toNat : Nat) : Int) = m.sum := by unfold sumW; simp; omega
  rwa [e] at this
set_option maxRecDepth 8000 in
set_option maxHeartbeats 4000000 in
theorem put16_spec (m : Msg) (hm : m.ok) (hml : m.recs.length ≤ 1000) (hmd : m.da.length ≤ 100000) : call 9 [.agg (msgL m)] [] = some (putM m, []) := by
  apply enterS s9 rfl
  have hr := right16_spec m hml hm.h_all hm.h_at_
  unfold putM
  cases hb : rightM m with
  | false =>
    rw [hb] at hr
    simp only [msgL] at hr
    (simp (disch := first | decide | omega | (intros; exact Eq.trans rfl rfl) | (simp only [puri]; done)) only [a9, msgL, hr, vis, visL, visB, fillR, rowsAt, toDs, toD, ↓ops_cons, ↓ops_consz, fzTs, fzLs, rg, rd, o, oz, kc, kb, ks, kx, on, og, od, ogd, A.run, evI, evOpt, evs, evP, argF, V.cs, binD, fzV, fzL, fzVs, dataVs, dataLs, V.data, L.data, unD, fillL, List.take_succ_cons, List.take_zero, List.drop_succ_cons, List.drop_zero, List.cons_append, ne_eq, Nat.reduceLT, Nat.reduceBEq, ↓reduceIte, Nat.reduceEqDiff, Nat.reduceAdd, Nat.reduceMul, Nat.reduceSub, Int.reduceToNat, Nat.reduceLeDiff, Int.reduceNeg, Int.reduceEq, Int.reduceLT, Int.reduceLE, Int.reduceBEq, Int.reduceBNe, Int.reduceToNat, dis])
    try simp [trim]
  | true =>
    rw [hb] at hr
    have hp := rightP hb
    have hn := headNs_nat hp
    have hH := numsB_len _ hn
    simp only [msgL] at hr
    obtain ⟨q1, hq1⟩ : ∃ q, q = numsB (headNs m) := ⟨_, rfl⟩
    have w0 := wNum0 (headNs m) q1 hq1 (by simp [headNs]) hn
    rw [← hq1] at hH
    simp only [headNs, List.map_cons, List.map_nil, encI, List.length_cons, List.length_nil] at w0 hH
    obtain ⟨Q, hQ⟩ : ∃ Q, Q = bodyM m := ⟨_, rfl⟩
    rw [← hQ]
    unfold bodyM tailBy at hQ
    rw [← hq1] at hQ
    have hhp := hp.h
    have fin : ∀ q : List UInt8, q.length ≤ 1000000 → ∃ a e, putV q = .tup [(false, [.d (.s a)]), (false, [.d (.i .i64 e)])] ∧ call 22 [vs q] [] = some (.tup [(false, [.d (.s a)]), (false, [.d (.i .i64 e)])], []) := by
      intro q hq
      have := putFrame_spec q (by omega)
      unfold putV at this ⊢
      split
      · rename_i hc; rw [if_pos hc] at this; exact ⟨_, _, rfl, this⟩
      · rename_i hc; rw [if_neg hc] at this; exact ⟨_, _, rfl, this⟩
    rcases hp.hk with k | k | k
    · rw [if_pos k] at hQ
      have hn2 : ∀ n ∈ [m.win, m.want, m.idx], natI n := by
        intro n hn; simp only [List.mem_cons, List.not_mem_nil, or_false] at hn; unfold natI; rcases hn with rfl | rfl | rfl <;> omega
      have w1 := wNum1 [m.win, m.want, m.idx] q1 Q hQ (by simp) (by omega) hn2
      have hl2 := numsB_len _ hn2
      have hQl : Q.length ≤ 1000000 := by rw [hQ, List.length_append]; simp only [List.length_cons, List.length_nil] at hl2; omega
      simp only [List.map_cons, List.map_nil, encI, List.length_cons, List.length_nil] at w1
      obtain ⟨a, e, f1, f2⟩ := fin Q hQl
      have htk : List.take Q.length (rowsOfBytes Q) = rowsOfBytes Q := List.take_of_length_le (by rw [rowsOfBytes_len]; exact Nat.le_refl _)
      (simp (disch := first | decide | omega | (intros; exact Eq.trans rfl rfl) | (simp only [puri]; done)) only [a9, msgL, hr, (eq_true k), List.replicate, List.set, w0, w1, bytesOf_rows, rowsOfBytes_len, htk, f1, f2, vis, visL, visB, fillR, rowsAt, toDs, toD, ↓ops_cons, ↓ops_consz, fzTs, fzLs, rg, rd, o, oz, kc, kb, ks, kx, on, og, od, ogd, A.run, evI, evOpt, evs, evP, argF, V.cs, binD, fzV, fzL, fzVs, dataVs, dataLs, V.data, L.data, unD, fillL, List.take_succ_cons, List.take_zero, List.drop_succ_cons, List.drop_zero, List.cons_append, ne_eq, Nat.reduceLT, Nat.reduceBEq, ↓reduceIte, Nat.reduceEqDiff, Nat.reduceAdd, Nat.reduceMul, Nat.reduceSub, Int.reduceToNat, Nat.reduceLeDiff, Int.reduceNeg, Int.reduceEq, Int.reduceLT, Int.reduceLE, Int.reduceBEq, Int.reduceBNe, Int.reduceToNat, dis])
      try simp [trim]
    · have k1 : ¬ m.k = 1 := by omega
      rw [if_neg k1, if_pos k] at hQ
      have ht := hp.t
      simp only [tailB, if_neg k1, if_pos k, Bool.and_eq_true, decide_eq_true_eq] at ht
      have hlen := ht.1.2
      have hall := rowB_right m.recs m.at_ ht.1.1
      have hn2 : ∀ n ∈ [m.high, (m.recs.length : Int)], natI n := by
        intro n hn; simp only [List.mem_cons, List.not_mem_nil, or_false] at hn; unfold natI; rcases hn with rfl | rfl <;> omega
      have hl2 := numsB_len _ hn2
      simp only [List.length_cons, List.length_nil] at hl2
      obtain ⟨q2, hq2⟩ : ∃ q, q = q1 ++ numsB [m.high, (m.recs.length : Int)] := ⟨_, rfl⟩
      have hq2l : q2.length ≤ 1000 := by rw [hq2, List.length_append]; omega
      have w1 := wNum1 [m.high, (m.recs.length : Int)] q1 q2 hq2 (by simp) (by omega) hn2
      simp only [List.map_cons, List.map_nil, encI, List.length_cons, List.length_nil] at w1
      have hQ2 : Q = q2 ++ recsB m.recs := by rw [hQ, hq2]; simp
      obtain ⟨Z, hZ⟩ : ∃ Z, Z = putV Q := ⟨_, rfl⟩
      rw [← hZ]
      (simp (disch := first | decide | omega | (intros; exact Eq.trans rfl rfl) | (simp only [puri]; done)) only [a9, msgL, hr, k1, (eq_true k), List.replicate, List.set, w0, w1, vis, visL, visB, fillR, rowsAt, toDs, toD, ↓ops_cons, ↓ops_consz, fzTs, fzLs, rg, rd, o, oz, kc, kb, ks, kx, on, og, od, ogd, A.run, evI, evOpt, evs, evP, argF, V.cs, binD, fzV, fzL, fzVs, dataVs, dataLs, V.data, L.data, unD, fillL, List.take_succ_cons, List.take_zero, List.drop_succ_cons, List.drop_zero, List.cons_append, ne_eq, Nat.reduceLT, Nat.reduceBEq, ↓reduceIte, Nat.reduceEqDiff, Nat.reduceAdd, Nat.reduceMul, Nat.reduceSub, Int.reduceToNat, Nat.reduceLeDiff, Int.reduceNeg, Int.reduceEq, Int.reduceLT, Int.reduceLE, Int.reduceBEq, Int.reduceBNe, Int.reduceToNat, dis])
      refine loop_box (σ := Nat) (fun i => m.recs.length - i) (fun i => i ≤ m.recs.length) (fun i => [V.one (.p 0 0), vl (m.recs.map Rec.enc), vi m.recs.length, vi i]) (fun i => [.cells [.sl 1 1 0 (q2 ++ recsB (m.recs.take i)).length], .arr 1 (rowsOfBytes (q2 ++ recsB (m.recs.take i))) 0])
        (fun _ => (Z, ([] : Hp))) ?_ 0 (Nat.zero_le _) _ _ ?_
      rotate_left
      · simp only [List.take_zero, show recsB [] = [] from rfl, List.append_nil]
        exact (at_head2 (by decide) (by simp only [List.map_cons, List.map_nil, vis, visL, visB, fillR, rowsAt, toDs, toD, ↓ops_cons, ↓ops_consz, fzTs, fzLs, rg, rd, o, oz, kc, kb, ks, kx, on, og, od, ogd, A.run, evI, evOpt, evs, evP, argF, V.cs, binD, fzV, fzL, fzVs, dataVs, dataLs, V.data, L.data, unD, fillL, List.take_succ_cons, List.take_zero, List.drop_succ_cons, List.drop_zero, List.cons_append, ne_eq, Nat.reduceLT, Nat.reduceBEq, ↓reduceIte, Nat.reduceEqDiff, Nat.reduceAdd, Nat.reduceMul, Nat.reduceSub, Int.reduceToNat, Nat.reduceLeDiff, Int.reduceNeg, Int.reduceEq, Int.reduceLT, Int.reduceLE, Int.reduceBEq, Int.reduceBNe, Int.reduceToNat]; exact rfl) (by simp [idsOf, reach, place_cons, place_nil, canonH, V.ren, L.ren, Box.ren, V.refs, L.refs, Box.refs, true_and]) (by simp [idsOf, reach, place_cons, place_nil, canonH, V.ren, L.ren, Box.ren, V.refs, L.refs, Box.refs, true_and]))
      intro i hi R hR
      have hql : (q2 ++ recsB (m.recs.take i)).length ≤ 1000 + 82 * i := by rw [List.length_append]; have := recsB_len m.recs hall i hi; omega
      rcases Nat.lt_or_ge i m.recs.length with h | h
      · have g1 : (m.recs.map Rec.enc)[i]? = some m.recs[i].enc := by simp [h]
        have hR' := hR (i + 1) (by omega) (by omega)
        rw [recsB_succ m.recs i h, ← List.append_assoc] at hR'
        have hrn := recB_nat (hall _ (List.getElem_mem h))
        generalize m.recs[i] = r at g1 hR' hrn
        generalize q2 ++ recsB (m.recs.take i) = q at hR' hql ⊢
        have hl3 := numsB_len _ hrn.1
        simp only [List.length_cons, List.length_nil] at hl3
        obtain ⟨q4, hq4⟩ : ∃ x, x = q ++ numsB [r.ti, (r.da.length : Int)] := ⟨_, rfl⟩
        have hq4l : q4.length ≤ 900000 := by rw [hq4, List.length_append]; omega
        obtain ⟨q5, hq5⟩ : ∃ x, x = q4 ++ r.da := ⟨_, rfl⟩
        have e5 : q ++ recB r = q5 := by rw [hq5, hq4]; unfold recB; simp
        rw [e5] at hR'
        have v1 := fun B => wNumL [r.ti, (r.da.length : Int)] q q4 hq4 (by simp) (by omega) hrn.1 B
        have v2 := fun B C D => wTxtL r.da q4 q5 hq5 (by omega) (by omega) B C D
        simp only [List.map_cons, List.map_nil, encI, List.length_cons, List.length_nil] at v1
        (simp (disch := first | decide | omega | (intros; exact Eq.trans rfl rfl) | (simp only [puri]; done)) only [a9_0, g1, Rec.enc, List.map_cons, List.map_nil, v1, v2, vis, visL, visB, fillR, rowsAt, toDs, toD, ↓ops_cons, ↓ops_consz, fzTs, fzLs, rg, rd, o, oz, kc, kb, ks, kx, on, og, od, ogd, A.run, evI, evOpt, evs, evP, argF, V.cs, binD, fzV, fzL, fzVs, dataVs, dataLs, V.data, L.data, unD, fillL, List.take_succ_cons, List.take_zero, List.drop_succ_cons, List.drop_zero, List.cons_append, ne_eq, Nat.reduceLT, Nat.reduceBEq, ↓reduceIte, Nat.reduceEqDiff, Nat.reduceAdd, Nat.reduceMul, Nat.reduceSub, Int.reduceToNat, Nat.reduceLeDiff, Int.reduceNeg, Int.reduceEq, Int.reduceLT, Int.reduceLE, Int.reduceBEq, Int.reduceBNe, Int.reduceToNat, dis])
        exact hR' _ _ (at_head2 (by decide) (by simp only [List.map_cons, List.map_nil, vis, visL, visB, fillR, rowsAt, toDs, toD, ↓ops_cons, ↓ops_consz, fzTs, fzLs, rg, rd, o, oz, kc, kb, ks, kx, on, og, od, ogd, A.run, evI, evOpt, evs, evP, argF, V.cs, binD, fzV, fzL, fzVs, dataVs, dataLs, V.data, L.data, unD, fillL, List.take_succ_cons, List.take_zero, List.drop_succ_cons, List.drop_zero, List.cons_append, ne_eq, Nat.reduceLT, Nat.reduceBEq, ↓reduceIte, Nat.reduceEqDiff, Nat.reduceAdd, Nat.reduceMul, Nat.reduceSub, Int.reduceToNat, Nat.reduceLeDiff, Int.reduceNeg, Int.reduceEq, Int.reduceLT, Int.reduceLE, Int.reduceBEq, Int.reduceBNe, Int.reduceToNat]; exact rfl) (by simp [idsOf, reach, place_cons, place_nil, canonH, V.ren, L.ren, Box.ren, V.refs, L.refs, Box.refs, true_and]) (by simp [idsOf, reach, place_cons, place_nil, canonH, V.ren, L.ren, Box.ren, V.refs, L.refs, Box.refs, true_and]))
      · rw [List.take_of_length_le h, ← hQ2] at hql ⊢
        obtain ⟨a, e, f1, f2⟩ := fin Q (by omega)
        have htk : List.take Q.length (rowsOfBytes Q) = rowsOfBytes Q := List.take_of_length_le (by rw [rowsOfBytes_len]; exact Nat.le_refl _)
        (simp (disch := first | decide | omega | (intros; exact Eq.trans rfl rfl) | (simp only [puri]; done)) only [a9_0, bytesOf_rows, rowsOfBytes_len, htk, f1, f2, vis, visL, visB, fillR, rowsAt, toDs, toD, ↓ops_cons, ↓ops_consz, fzTs, fzLs, rg, rd, o, oz, kc, kb, ks, kx, on, og, od, ogd, A.run, evI, evOpt, evs, evP, argF, V.cs, binD, fzV, fzL, fzVs, dataVs, dataLs, V.data, L.data, unD, fillL, List.take_succ_cons, List.take_zero, List.drop_succ_cons, List.drop_zero, List.cons_append, ne_eq, Nat.reduceLT, Nat.reduceBEq, ↓reduceIte, Nat.reduceEqDiff, Nat.reduceAdd, Nat.reduceMul, Nat.reduceSub, Int.reduceToNat, Nat.reduceLeDiff, Int.reduceNeg, Int.reduceEq, Int.reduceLT, Int.reduceLE, Int.reduceBEq, Int.reduceBNe, Int.reduceToNat, dis])
        rw [hZ, f1]
        try simp [trim]
    · have k1 : ¬ m.k = 1 := by omega
      have k2 : ¬ m.k = 2 := by omega
      rw [if_neg k1, if_neg k2] at hQ
      have hn2 : ∀ n ∈ [m.size, m.idx], natI n := by
        intro n hn; simp only [List.mem_cons, List.not_mem_nil, or_false] at hn; unfold natI; rcases hn with rfl | rfl <;> omega
      have hl2 := numsB_len _ hn2
      simp only [List.length_cons, List.length_nil] at hl2
      obtain ⟨q2, hq2⟩ : ∃ q, q = q1 ++ numsB [m.size, m.idx] := ⟨_, rfl⟩
      have hq2l : q2.length ≤ 1000 := by rw [hq2, List.length_append]; omega
      have w1 := wNum1 [m.size, m.idx] q1 q2 hq2 (by simp) (by omega) hn2
      obtain ⟨q3, hq3⟩ : ∃ q, q = q2 ++ four (sumW m) := ⟨_, rfl⟩
      have h4 : (four (sumW m)).length = 4 := rfl
      have hq3l : q3.length ≤ 2000 := by rw [hq3, List.length_append]; omega
      have w2 := wTxt2 (four (sumW m)) q2 q3 hq3 (by omega) (by omega)
      have hQ3 : Q = q3 ++ m.da := by rw [hQ, hq3, hq2]; simp
      have w3 := wTxt3 m.da q3 Q hQ3 (by omega) (by omega)
      have hQl : Q.length ≤ 1000000 := by rw [hQ3, List.length_append]; omega
      have h4s := four_sum m hm.h_sum
      simp only [List.map_cons, List.map_nil, encI, List.length_cons, List.length_nil] at w1
      obtain ⟨a, e, f1, f2⟩ := fin Q hQl
      have htk : List.take Q.length (rowsOfBytes Q) = rowsOfBytes Q := List.take_of_length_le (by rw [rowsOfBytes_len]; exact Nat.le_refl _)
      (simp (disch := first | decide | omega | (intros; exact Eq.trans rfl rfl) | (simp only [puri]; done)) only [a9, msgL, hr, k1, k2, (eq_true k), List.replicate, List.set, w0, w1, w2, w3, h4s, bytesOf_rows, rowsOfBytes_len, htk, f1, f2, vis, visL, visB, fillR, rowsAt, toDs, toD, ↓ops_cons, ↓ops_consz, fzTs, fzLs, rg, rd, o, oz, kc, kb, ks, kx, on, og, od, ogd, A.run, evI, evOpt, evs, evP, argF, V.cs, binD, fzV, fzL, fzVs, dataVs, dataLs, V.data, L.data, unD, fillL, List.take_succ_cons, List.take_zero, List.drop_succ_cons, List.drop_zero, List.cons_append, ne_eq, Nat.reduceLT, Nat.reduceBEq, ↓reduceIte, Nat.reduceEqDiff, Nat.reduceAdd, Nat.reduceMul, Nat.reduceSub, Int.reduceToNat, Nat.reduceLeDiff, Int.reduceNeg, Int.reduceEq, Int.reduceLT, Int.reduceLE, Int.reduceBEq, Int.reduceBNe, Int.reduceToNat, dis])
      try simp [trim]
end Go.Proofs.Ytogleebbifpijaa
