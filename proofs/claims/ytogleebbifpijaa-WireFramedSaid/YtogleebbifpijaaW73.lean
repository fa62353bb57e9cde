import Derived.Test.YtogleebbifpijaaW72
set_option linter.unusedSimpArgs false
set_option linter.unusedVariables false
namespace Go.Proofs.Ytogleebbifpijaa
open Go.Vi
set_option linter.unusedSimpArgs false

theorem inR_iff {n k : Int} : inR n k = true ↔ 0 ≤ n ∧ n ≤ k := by simp [inR]
theorem x1_iff (m : Msg) : ({ m with high := 0, size := 0, sum := 0, da := [], recs := [] } : Msg) = m ↔ m.high = 0 ∧ m.size = 0 ∧ m.sum = 0 ∧ m.da = [] ∧ m.recs = [] := by
  cases m; simp only [Msg.mk.injEq, true_and, and_true]
  exact ⟨fun ⟨a, b, c, d, e⟩ => ⟨a.symm, b.symm, c.symm, d.symm, e.symm⟩, fun ⟨a, b, c, d, e⟩ => ⟨a.symm, b.symm, c.symm, d.symm, e.symm⟩⟩
theorem x2_iff (m : Msg) : ({ m with win := 0, want := 0, idx := 0, size := 0, sum := 0, da := [] } : Msg) = m ↔ m.win = 0 ∧ m.want = 0 ∧ m.idx = 0 ∧ m.size = 0 ∧ m.sum = 0 ∧ m.da = [] := by
  cases m; simp only [Msg.mk.injEq, true_and, and_true]
  exact ⟨fun ⟨a, b, c, d, e, f⟩ => ⟨a.symm, b.symm, c.symm, d.symm, e.symm, f.symm⟩, fun ⟨a, b, c, d, e, f⟩ => ⟨a.symm, b.symm, c.symm, d.symm, e.symm, f.symm⟩⟩
theorem x3_iff (m : Msg) : ({ m with win := 0, high := 0, want := 0, recs := [] } : Msg) = m ↔ m.win = 0 ∧ m.high = 0 ∧ m.want = 0 ∧ m.recs = [] := by
  cases m; simp only [Msg.mk.injEq, true_and, and_true]
  exact ⟨fun ⟨a, b, c, d⟩ => ⟨a.symm, b.symm, c.symm, d.symm⟩, fun ⟨a, b, c, d⟩ => ⟨a.symm, b.symm, c.symm, d.symm⟩⟩
theorem tail1 {m : Msg} (k1 : m.k = 1) (h : tailB m = true) : m.high = 0 ∧ m.size = 0 ∧ m.sum = 0 ∧ m.da = [] ∧ m.recs = [] := by
  simp [tailB, k1] at h
  exact ⟨h.2.1, h.2.2.1, h.2.2.2.1, h.2.2.2.2, h.1⟩
theorem tail2 {m : Msg} (k2 : m.k = 2) (h : tailB m = true) : m.win = 0 ∧ m.want = 0 ∧ m.idx = 0 ∧ m.size = 0 ∧ m.sum = 0 ∧ m.da = [] := by
  simp [tailB, k2] at h
  exact h.2
theorem tail3 {m : Msg} (k3 : m.k = 3) (h : tailB m = true) : m.win = 0 ∧ m.high = 0 ∧ m.want = 0 ∧ m.recs = [] := by
  simp [tailB, k3] at h
  exact ⟨h.2.1, h.2.2.1, h.2.2.2.1, h.1⟩
set_option maxRecDepth 8000 in
set_option maxHeartbeats 16000000 in
theorem refRight16_spec (m : Msg) (hm : m.recs.length ≤ 1000) : call 14 [.agg (msgL m)] [] = some (vb (rightM m), []) := by
  apply enterS s14 rfl
  by_cases h1 : inR m.fr 7 = true
  · have h1' := inR_iff.1 h1
    by_cases h2 : inR m.to 7 = true
    · have h2' := inR_iff.1 h2
      by_cases h3 : m.fr = m.to
      · have hd : headB m = false := decide_eq_false (by omega)
        have ne : rightM m = false := by simp [rightM, hd]
        (simp (disch := first | decide | omega | (intros; exact Eq.trans rfl rfl) | (simp only [puri]; done)) only [a14, msgL, within16_spec, h1, h2, (eq_true h3), ne, vis, visL, visB, fillR, rowsAt, toDs, toD, ↓ops_cons, ↓ops_consz, fzTs, fzLs, rg, rd, o, oz, kc, kb, ks, kx, on, og, od, ogd, A.run, evI, evOpt, evs, evP, argF, V.cs, binD, fzV, fzL, fzVs, dataVs, dataLs, V.data, L.data, unD, fillL, List.take_succ_cons, List.take_zero, List.drop_succ_cons, List.drop_zero, List.cons_append, ne_eq, Nat.reduceLT, Nat.reduceBEq, ↓reduceIte, Nat.reduceEqDiff, Nat.reduceAdd, Nat.reduceMul, Nat.reduceSub, Int.reduceToNat, Nat.reduceLeDiff, Int.reduceNeg, Int.reduceEq, Int.reduceLT, Int.reduceLE, Int.reduceBEq, Int.reduceBNe, Int.reduceToNat, dis, vdr, A.kind, A.xs, optX])
        try simp [trim]
      · by_cases h4 : m.inc < 1
        · have hd : headB m = false := decide_eq_false (by omega)
          have ne : rightM m = false := by simp [rightM, hd]
          (simp (disch := first | decide | omega | (intros; exact Eq.trans rfl rfl) | (simp only [puri]; done)) only [a14, msgL, within16_spec, h1, h2, h3, h4, ne, vis, visL, visB, fillR, rowsAt, toDs, toD, ↓ops_cons, ↓ops_consz, fzTs, fzLs, rg, rd, o, oz, kc, kb, ks, kx, on, og, od, ogd, A.run, evI, evOpt, evs, evP, argF, V.cs, binD, fzV, fzL, fzVs, dataVs, dataLs, V.data, L.data, unD, fillL, List.take_succ_cons, List.take_zero, List.drop_succ_cons, List.drop_zero, List.cons_append, ne_eq, Nat.reduceLT, Nat.reduceBEq, ↓reduceIte, Nat.reduceEqDiff, Nat.reduceAdd, Nat.reduceMul, Nat.reduceSub, Int.reduceToNat, Nat.reduceLeDiff, Int.reduceNeg, Int.reduceEq, Int.reduceLT, Int.reduceLE, Int.reduceBEq, Int.reduceBNe, Int.reduceToNat, dis, vdr, A.kind, A.xs, optX])
          try simp [trim]
        · by_cases h5 : inR m.inc 1099511627776 = true
          · have h5' := inR_iff.1 h5
            by_cases h6 : inR m.peer 1099511627776 = true
            · have h6' := inR_iff.1 h6
              by_cases h7 : inR m.seq 1099511627776 = true
              · have h7' := inR_iff.1 h7
                by_cases h8 : inR m.at_ 1099511627776 = true
                · have h8' := inR_iff.1 h8
                  by_cases k1 : m.k = 1
                  · have hs := refSame16_spec ({ m with high := 0, size := 0, sum := 0, da := [], recs := [] } : Msg) m (by simp)
                    by_cases e1 : ({ m with high := 0, size := 0, sum := 0, da := [], recs := [] } : Msg) = m
                    · have e1' := (x1_iff m).1 e1
                      obtain ⟨q1, q2, q3, q4, q5⟩ := e1'
                      rw [decide_eq_true e1] at hs
                      simp only [msgL, List.map_nil] at hs
                      by_cases g1 : inR m.win 65536 = true
                      · have g1' := inR_iff.1 g1
                        by_cases g2 : inR m.want 1099511627776 = true
                        · have g2' := inR_iff.1 g2
                          by_cases g3 : inR m.idx 65536 = true
                          · have g3' := inR_iff.1 g3
                            have hh : headB m = true := decide_eq_true (by omega)
                            have yes : rightM m = true := by simp [rightM, hh, tailB, k1, q1, q2, q3, q4, q5]
                            (simp (disch := first | decide | omega | (intros; exact Eq.trans rfl rfl) | (simp only [puri]; done)) only [a14, msgL, within16_spec, h1, h2, h3, h4, h5, h6, h7, h8, (eq_true k1), hs, g1, g2, g3, yes, vis, visL, visB, fillR, rowsAt, toDs, toD, ↓ops_cons, ↓ops_consz, fzTs, fzLs, rg, rd, o, oz, kc, kb, ks, kx, on, og, od, ogd, A.run, evI, evOpt, evs, evP, argF, V.cs, binD, fzV, fzL, fzVs, dataVs, dataLs, V.data, L.data, unD, fillL, List.take_succ_cons, List.take_zero, List.drop_succ_cons, List.drop_zero, List.cons_append, ne_eq, Nat.reduceLT, Nat.reduceBEq, ↓reduceIte, Nat.reduceEqDiff, Nat.reduceAdd, Nat.reduceMul, Nat.reduceSub, Int.reduceToNat, Nat.reduceLeDiff, Int.reduceNeg, Int.reduceEq, Int.reduceLT, Int.reduceLE, Int.reduceBEq, Int.reduceBNe, Int.reduceToNat, dis, vdr, A.kind, A.xs, optX])
                            try simp [trim]
                          · have g3' := (not_congr inR_iff).1 g3
                            simp only [Bool.not_eq_true] at g3
                            have hd : headB m = false := decide_eq_false (by omega)
                            have ne : rightM m = false := by simp [rightM, hd]
                            (simp (disch := first | decide | omega | (intros; exact Eq.trans rfl rfl) | (simp only [puri]; done)) only [a14, msgL, within16_spec, h1, h2, h3, h4, h5, h6, h7, h8, (eq_true k1), hs, g1, g2, g3, ne, vis, visL, visB, fillR, rowsAt, toDs, toD, ↓ops_cons, ↓ops_consz, fzTs, fzLs, rg, rd, o, oz, kc, kb, ks, kx, on, og, od, ogd, A.run, evI, evOpt, evs, evP, argF, V.cs, binD, fzV, fzL, fzVs, dataVs, dataLs, V.data, L.data, unD, fillL, List.take_succ_cons, List.take_zero, List.drop_succ_cons, List.drop_zero, List.cons_append, ne_eq, Nat.reduceLT, Nat.reduceBEq, ↓reduceIte, Nat.reduceEqDiff, Nat.reduceAdd, Nat.reduceMul, Nat.reduceSub, Int.reduceToNat, Nat.reduceLeDiff, Int.reduceNeg, Int.reduceEq, Int.reduceLT, Int.reduceLE, Int.reduceBEq, Int.reduceBNe, Int.reduceToNat, dis, vdr, A.kind, A.xs, optX])
                            try simp [trim]
                        · have g2' := (not_congr inR_iff).1 g2
                          simp only [Bool.not_eq_true] at g2
                          have hd : headB m = false := decide_eq_false (by omega)
                          have ne : rightM m = false := by simp [rightM, hd]
                          (simp (disch := first | decide | omega | (intros; exact Eq.trans rfl rfl) | (simp only [puri]; done)) only [a14, msgL, within16_spec, h1, h2, h3, h4, h5, h6, h7, h8, (eq_true k1), hs, g1, g2, ne, vis, visL, visB, fillR, rowsAt, toDs, toD, ↓ops_cons, ↓ops_consz, fzTs, fzLs, rg, rd, o, oz, kc, kb, ks, kx, on, og, od, ogd, A.run, evI, evOpt, evs, evP, argF, V.cs, binD, fzV, fzL, fzVs, dataVs, dataLs, V.data, L.data, unD, fillL, List.take_succ_cons, List.take_zero, List.drop_succ_cons, List.drop_zero, List.cons_append, ne_eq, Nat.reduceLT, Nat.reduceBEq, ↓reduceIte, Nat.reduceEqDiff, Nat.reduceAdd, Nat.reduceMul, Nat.reduceSub, Int.reduceToNat, Nat.reduceLeDiff, Int.reduceNeg, Int.reduceEq, Int.reduceLT, Int.reduceLE, Int.reduceBEq, Int.reduceBNe, Int.reduceToNat, dis, vdr, A.kind, A.xs, optX])
                          try simp [trim]
                      · have g1' := (not_congr inR_iff).1 g1
                        simp only [Bool.not_eq_true] at g1
                        have hd : headB m = false := decide_eq_false (by omega)
                        have ne : rightM m = false := by simp [rightM, hd]
                        (simp (disch := first | decide | omega | (intros; exact Eq.trans rfl rfl) | (simp only [puri]; done)) only [a14, msgL, within16_spec, h1, h2, h3, h4, h5, h6, h7, h8, (eq_true k1), hs, g1, ne, vis, visL, visB, fillR, rowsAt, toDs, toD, ↓ops_cons, ↓ops_consz, fzTs, fzLs, rg, rd, o, oz, kc, kb, ks, kx, on, og, od, ogd, A.run, evI, evOpt, evs, evP, argF, V.cs, binD, fzV, fzL, fzVs, dataVs, dataLs, V.data, L.data, unD, fillL, List.take_succ_cons, List.take_zero, List.drop_succ_cons, List.drop_zero, List.cons_append, ne_eq, Nat.reduceLT, Nat.reduceBEq, ↓reduceIte, Nat.reduceEqDiff, Nat.reduceAdd, Nat.reduceMul, Nat.reduceSub, Int.reduceToNat, Nat.reduceLeDiff, Int.reduceNeg, Int.reduceEq, Int.reduceLT, Int.reduceLE, Int.reduceBEq, Int.reduceBNe, Int.reduceToNat, dis, vdr, A.kind, A.xs, optX])
                        try simp [trim]
                    · have ne : rightM m = false := by
                        have : tailB m = false := by
                          rw [Bool.eq_false_iff]; intro h; exact e1 ((x1_iff m).2 (tail1 k1 h))
                        simp [rightM, this]
                      rw [decide_eq_false e1] at hs
                      simp only [msgL, List.map_nil] at hs
                      (simp (disch := first | decide | omega | (intros; exact Eq.trans rfl rfl) | (simp only [puri]; done)) only [a14, msgL, within16_spec, h1, h2, h3, h4, h5, h6, h7, h8, (eq_true k1), hs, ne, vis, visL, visB, fillR, rowsAt, toDs, toD, ↓ops_cons, ↓ops_consz, fzTs, fzLs, rg, rd, o, oz, kc, kb, ks, kx, on, og, od, ogd, A.run, evI, evOpt, evs, evP, argF, V.cs, binD, fzV, fzL, fzVs, dataVs, dataLs, V.data, L.data, unD, fillL, List.take_succ_cons, List.take_zero, List.drop_succ_cons, List.drop_zero, List.cons_append, ne_eq, Nat.reduceLT, Nat.reduceBEq, ↓reduceIte, Nat.reduceEqDiff, Nat.reduceAdd, Nat.reduceMul, Nat.reduceSub, Int.reduceToNat, Nat.reduceLeDiff, Int.reduceNeg, Int.reduceEq, Int.reduceLT, Int.reduceLE, Int.reduceBEq, Int.reduceBNe, Int.reduceToNat, dis, vdr, A.kind, A.xs, optX])
                      try simp [trim]
                  · by_cases k2 : m.k = 2
                    · have hs := refSame16_spec ({ m with win := 0, want := 0, idx := 0, size := 0, sum := 0, da := [] } : Msg) m (by simp only []; omega)
                      by_cases e1 : ({ m with win := 0, want := 0, idx := 0, size := 0, sum := 0, da := [] } : Msg) = m
                      · have e1' := (x2_iff m).1 e1
                        obtain ⟨q1, q2, q3, q4, q5, q6⟩ := e1'
                        rw [decide_eq_true e1] at hs
                        simp only [msgL, List.map_nil] at hs
                        by_cases g1 : inR m.high 1099511627776 = true
                        · have g1' := inR_iff.1 g1
                          by_cases g2 : m.recs.length ≤ 64
                          · have hh : headB m = true := decide_eq_true (by omega)
                            have yes : rightM m = rowB m.at_ m.recs := by simp [rightM, hh, tailB, k2, q1, q2, q3, q4, q5, q6, g2]
                            rw [yes]
                            (simp (disch := first | decide | omega | (intros; exact Eq.trans rfl rfl) | (simp only [puri]; done)) only [a14, msgL, within16_spec, h1, h2, h3, h4, h5, h6, h7, h8, k1, (eq_true k2), hs, g1, g2, vis, visL, visB, fillR, rowsAt, toDs, toD, ↓ops_cons, ↓ops_consz, fzTs, fzLs, rg, rd, o, oz, kc, kb, ks, kx, on, og, od, ogd, A.run, evI, evOpt, evs, evP, argF, V.cs, binD, fzV, fzL, fzVs, dataVs, dataLs, V.data, L.data, unD, fillL, List.take_succ_cons, List.take_zero, List.drop_succ_cons, List.drop_zero, List.cons_append, ne_eq, Nat.reduceLT, Nat.reduceBEq, ↓reduceIte, Nat.reduceEqDiff, Nat.reduceAdd, Nat.reduceMul, Nat.reduceSub, Int.reduceToNat, Nat.reduceLeDiff, Int.reduceNeg, Int.reduceEq, Int.reduceLT, Int.reduceLE, Int.reduceBEq, Int.reduceBNe, Int.reduceToNat, dis, vdr, A.kind, A.xs, optX])
                            refine loop_box (σ := Nat) (fun i => m.recs.length - i) (fun i => i ≤ m.recs.length ∧ rowB m.at_ m.recs = rowB (m.at_ + i) (m.recs.drop i)) (fun i => [.one (.p 0 0), vi i]) (fun _ => [.cells (msgL m)]) (fun _ => (vb (rowB m.at_ m.recs), ([] : Hp))) ?_ 0 ⟨Nat.zero_le _, by simp⟩ _ _ ?_
                            rotate_left
                            · exact (at_head2 (by decide) (by simp only [List.map_cons, List.map_nil, vis, visL, visB, fillR, rowsAt, toDs, toD, ↓ops_cons, ↓ops_consz, fzTs, fzLs, rg, rd, o, oz, kc, kb, ks, kx, on, og, od, ogd, A.run, evI, evOpt, evs, evP, argF, V.cs, binD, fzV, fzL, fzVs, dataVs, dataLs, V.data, L.data, unD, fillL, List.take_succ_cons, List.take_zero, List.drop_succ_cons, List.drop_zero, List.cons_append, ne_eq, Nat.reduceLT, Nat.reduceBEq, ↓reduceIte, Nat.reduceEqDiff, Nat.reduceAdd, Nat.reduceMul, Nat.reduceSub, Int.reduceToNat, Nat.reduceLeDiff, Int.reduceNeg, Int.reduceEq, Int.reduceLT, Int.reduceLE, Int.reduceBEq, Int.reduceBNe, Int.reduceToNat]; exact rfl) (by simp [idsOf, reach, place_cons, place_nil, canonH, V.ren, L.ren, Box.ren, V.refs, L.refs, Box.refs, msgL]) (by simp [idsOf, reach, place_cons, place_nil, canonH, V.ren, L.ren, Box.ren, V.refs, L.refs, Box.refs, msgL]))
                            rintro i ⟨hi, he⟩ R hR
                            simp only [msgL]
                            rcases Nat.lt_or_ge i m.recs.length with h | h
                            · have g9 : (m.recs.map Rec.enc)[i]? = some m.recs[i].enc := by simp [h]
                              have hw := refRight_spec m.recs[i]
                              rw [List.drop_eq_getElem_cons h] at he
                              simp only [rowB] at he
                              by_cases c : whyF m.recs[i] = 0
                              · rw [decide_eq_true c] at hw he
                                by_cases c2 : m.recs[i].at_ = m.at_ + i
                                · rw [decide_eq_true c2, Bool.true_and, Bool.true_and] at he
                                  (simp (disch := first | decide | omega | (intros; exact Eq.trans rfl rfl) | (simp only [puri]; done)) only [a14_0, g9, Rec.len, Rec.tk, Rec.tkL, Rec.dat, Rec.lenL, Rec.fd0, Rec.at0, hw, c2, vis, visL, visB, fillR, rowsAt, toDs, toD, ↓ops_cons, ↓ops_consz, fzTs, fzLs, rg, rd, o, oz, kc, kb, ks, kx, on, og, od, ogd, A.run, evI, evOpt, evs, evP, argF, V.cs, binD, fzV, fzL, fzVs, dataVs, dataLs, V.data, L.data, unD, fillL, List.take_succ_cons, List.take_zero, List.drop_succ_cons, List.drop_zero, List.cons_append, ne_eq, Nat.reduceLT, Nat.reduceBEq, ↓reduceIte, Nat.reduceEqDiff, Nat.reduceAdd, Nat.reduceMul, Nat.reduceSub, Int.reduceToNat, Nat.reduceLeDiff, Int.reduceNeg, Int.reduceEq, Int.reduceLT, Int.reduceLE, Int.reduceBEq, Int.reduceBNe, Int.reduceToNat, dis, vdr, A.kind, A.xs, optX])
                                  have e2 : m.at_ + ((i + 1 : Nat) : Int) = m.at_ + i + 1 := by omega
                                  exact hR (i + 1) (by omega) ⟨by omega, by rw [he, e2]⟩ _ _ (at_head2 (by decide) (by simp only [List.map_cons, List.map_nil, vis, visL, visB, fillR, rowsAt, toDs, toD, ↓ops_cons, ↓ops_consz, fzTs, fzLs, rg, rd, o, oz, kc, kb, ks, kx, on, og, od, ogd, A.run, evI, evOpt, evs, evP, argF, V.cs, binD, fzV, fzL, fzVs, dataVs, dataLs, V.data, L.data, unD, fillL, List.take_succ_cons, List.take_zero, List.drop_succ_cons, List.drop_zero, List.cons_append, ne_eq, Nat.reduceLT, Nat.reduceBEq, ↓reduceIte, Nat.reduceEqDiff, Nat.reduceAdd, Nat.reduceMul, Nat.reduceSub, Int.reduceToNat, Nat.reduceLeDiff, Int.reduceNeg, Int.reduceEq, Int.reduceLT, Int.reduceLE, Int.reduceBEq, Int.reduceBNe, Int.reduceToNat]; exact rfl) (by simp [idsOf, reach, place_cons, place_nil, canonH, V.ren, L.ren, Box.ren, V.refs, L.refs, Box.refs, msgL]) (by simp [idsOf, reach, place_cons, place_nil, canonH, V.ren, L.ren, Box.ren, V.refs, L.refs, Box.refs, msgL]))
                                · rw [decide_eq_false c2, Bool.false_and, Bool.and_false] at he
                                  (simp (disch := first | decide | omega | (intros; exact Eq.trans rfl rfl) | (simp only [puri]; done)) only [a14_0, g9, Rec.len, Rec.tk, Rec.tkL, Rec.dat, Rec.lenL, Rec.fd0, Rec.at0, hw, c2, he, vis, visL, visB, fillR, rowsAt, toDs, toD, ↓ops_cons, ↓ops_consz, fzTs, fzLs, rg, rd, o, oz, kc, kb, ks, kx, on, og, od, ogd, A.run, evI, evOpt, evs, evP, argF, V.cs, binD, fzV, fzL, fzVs, dataVs, dataLs, V.data, L.data, unD, fillL, List.take_succ_cons, List.take_zero, List.drop_succ_cons, List.drop_zero, List.cons_append, ne_eq, Nat.reduceLT, Nat.reduceBEq, ↓reduceIte, Nat.reduceEqDiff, Nat.reduceAdd, Nat.reduceMul, Nat.reduceSub, Int.reduceToNat, Nat.reduceLeDiff, Int.reduceNeg, Int.reduceEq, Int.reduceLT, Int.reduceLE, Int.reduceBEq, Int.reduceBNe, Int.reduceToNat, dis, vdr, A.kind, A.xs, optX])
                                  try simp [trim]
                              · rw [decide_eq_false c] at hw he
                                rw [Bool.false_and] at he
                                (simp (disch := first | decide | omega | (intros; exact Eq.trans rfl rfl) | (simp only [puri]; done)) only [a14_0, g9, Rec.len, Rec.tk, Rec.tkL, Rec.dat, Rec.lenL, Rec.fd0, hw, he, vis, visL, visB, fillR, rowsAt, toDs, toD, ↓ops_cons, ↓ops_consz, fzTs, fzLs, rg, rd, o, oz, kc, kb, ks, kx, on, og, od, ogd, A.run, evI, evOpt, evs, evP, argF, V.cs, binD, fzV, fzL, fzVs, dataVs, dataLs, V.data, L.data, unD, fillL, List.take_succ_cons, List.take_zero, List.drop_succ_cons, List.drop_zero, List.cons_append, ne_eq, Nat.reduceLT, Nat.reduceBEq, ↓reduceIte, Nat.reduceEqDiff, Nat.reduceAdd, Nat.reduceMul, Nat.reduceSub, Int.reduceToNat, Nat.reduceLeDiff, Int.reduceNeg, Int.reduceEq, Int.reduceLT, Int.reduceLE, Int.reduceBEq, Int.reduceBNe, Int.reduceToNat, dis, vdr, A.kind, A.xs, optX])
                                try simp [trim]
                            · rw [List.drop_eq_nil_of_le h] at he
                              simp only [rowB] at he
                              (simp (disch := first | decide | omega | (intros; exact Eq.trans rfl rfl) | (simp only [puri]; done)) only [a14_0, he, vis, visL, visB, fillR, rowsAt, toDs, toD, ↓ops_cons, ↓ops_consz, fzTs, fzLs, rg, rd, o, oz, kc, kb, ks, kx, on, og, od, ogd, A.run, evI, evOpt, evs, evP, argF, V.cs, binD, fzV, fzL, fzVs, dataVs, dataLs, V.data, L.data, unD, fillL, List.take_succ_cons, List.take_zero, List.drop_succ_cons, List.drop_zero, List.cons_append, ne_eq, Nat.reduceLT, Nat.reduceBEq, ↓reduceIte, Nat.reduceEqDiff, Nat.reduceAdd, Nat.reduceMul, Nat.reduceSub, Int.reduceToNat, Nat.reduceLeDiff, Int.reduceNeg, Int.reduceEq, Int.reduceLT, Int.reduceLE, Int.reduceBEq, Int.reduceBNe, Int.reduceToNat, dis, vdr, A.kind, A.xs, optX])
                              try simp [trim]
                          · have ne : rightM m = false := by simp [rightM, tailB, k2, g2]
                            (simp (disch := first | decide | omega | (intros; exact Eq.trans rfl rfl) | (simp only [puri]; done)) only [a14, msgL, within16_spec, h1, h2, h3, h4, h5, h6, h7, h8, k1, (eq_true k2), hs, g1, g2, ne, vis, visL, visB, fillR, rowsAt, toDs, toD, ↓ops_cons, ↓ops_consz, fzTs, fzLs, rg, rd, o, oz, kc, kb, ks, kx, on, og, od, ogd, A.run, evI, evOpt, evs, evP, argF, V.cs, binD, fzV, fzL, fzVs, dataVs, dataLs, V.data, L.data, unD, fillL, List.take_succ_cons, List.take_zero, List.drop_succ_cons, List.drop_zero, List.cons_append, ne_eq, Nat.reduceLT, Nat.reduceBEq, ↓reduceIte, Nat.reduceEqDiff, Nat.reduceAdd, Nat.reduceMul, Nat.reduceSub, Int.reduceToNat, Nat.reduceLeDiff, Int.reduceNeg, Int.reduceEq, Int.reduceLT, Int.reduceLE, Int.reduceBEq, Int.reduceBNe, Int.reduceToNat, dis, vdr, A.kind, A.xs, optX])
                            try simp [trim]
                        · have g1' := (not_congr inR_iff).1 g1
                          simp only [Bool.not_eq_true] at g1
                          have hd : headB m = false := decide_eq_false (by omega)
                          have ne : rightM m = false := by simp [rightM, hd]
                          (simp (disch := first | decide | omega | (intros; exact Eq.trans rfl rfl) | (simp only [puri]; done)) only [a14, msgL, within16_spec, h1, h2, h3, h4, h5, h6, h7, h8, k1, (eq_true k2), hs, g1, ne, vis, visL, visB, fillR, rowsAt, toDs, toD, ↓ops_cons, ↓ops_consz, fzTs, fzLs, rg, rd, o, oz, kc, kb, ks, kx, on, og, od, ogd, A.run, evI, evOpt, evs, evP, argF, V.cs, binD, fzV, fzL, fzVs, dataVs, dataLs, V.data, L.data, unD, fillL, List.take_succ_cons, List.take_zero, List.drop_succ_cons, List.drop_zero, List.cons_append, ne_eq, Nat.reduceLT, Nat.reduceBEq, ↓reduceIte, Nat.reduceEqDiff, Nat.reduceAdd, Nat.reduceMul, Nat.reduceSub, Int.reduceToNat, Nat.reduceLeDiff, Int.reduceNeg, Int.reduceEq, Int.reduceLT, Int.reduceLE, Int.reduceBEq, Int.reduceBNe, Int.reduceToNat, dis, vdr, A.kind, A.xs, optX])
                          try simp [trim]
                      · have ne : rightM m = false := by
                          have : tailB m = false := by
                            rw [Bool.eq_false_iff]; intro h; exact e1 ((x2_iff m).2 (tail2 k2 h))
                          simp [rightM, this]
                        rw [decide_eq_false e1] at hs
                        simp only [msgL, List.map_nil] at hs
                        (simp (disch := first | decide | omega | (intros; exact Eq.trans rfl rfl) | (simp only [puri]; done)) only [a14, msgL, within16_spec, h1, h2, h3, h4, h5, h6, h7, h8, k1, (eq_true k2), hs, ne, vis, visL, visB, fillR, rowsAt, toDs, toD, ↓ops_cons, ↓ops_consz, fzTs, fzLs, rg, rd, o, oz, kc, kb, ks, kx, on, og, od, ogd, A.run, evI, evOpt, evs, evP, argF, V.cs, binD, fzV, fzL, fzVs, dataVs, dataLs, V.data, L.data, unD, fillL, List.take_succ_cons, List.take_zero, List.drop_succ_cons, List.drop_zero, List.cons_append, ne_eq, Nat.reduceLT, Nat.reduceBEq, ↓reduceIte, Nat.reduceEqDiff, Nat.reduceAdd, Nat.reduceMul, Nat.reduceSub, Int.reduceToNat, Nat.reduceLeDiff, Int.reduceNeg, Int.reduceEq, Int.reduceLT, Int.reduceLE, Int.reduceBEq, Int.reduceBNe, Int.reduceToNat, dis, vdr, A.kind, A.xs, optX])
                        try simp [trim]
                    · by_cases k3 : m.k = 3
                      · have hs := refSame16_spec ({ m with win := 0, high := 0, want := 0, recs := [] } : Msg) m (by simp)
                        by_cases e1 : ({ m with win := 0, high := 0, want := 0, recs := [] } : Msg) = m
                        · have e1' := (x3_iff m).1 e1
                          obtain ⟨q1, q2, q3, q4⟩ := e1'
                          rw [decide_eq_true e1] at hs
                          simp only [msgL, List.map_nil] at hs
                          by_cases g1 : 1 ≤ m.size
                          · by_cases g2 : inR m.size 65536 = true
                            · have g2' := inR_iff.1 g2
                              by_cases g3 : inR m.idx m.size = true
                              · have g3' := inR_iff.1 g3
                                by_cases g4 : m.da.length ≤ 4096
                                · have hh : headB m = true := decide_eq_true (by omega)
                                  have p1 : 0 < m.size := by omega
                                  have p2 : m.idx ≤ m.size := by omega
                                  have yes : rightM m = true := by simp [rightM, hh, tailB, k3, q1, q2, q3, q4, p1, p2, g4]
                                  (simp (disch := first | decide | omega | (intros; exact Eq.trans rfl rfl) | (simp only [puri]; done)) only [a14, msgL, within16_spec, h1, h2, h3, h4, h5, h6, h7, h8, k1, k2, (eq_true k3), hs, g1, g2, g3, g4, yes, vis, visL, visB, fillR, rowsAt, toDs, toD, ↓ops_cons, ↓ops_consz, fzTs, fzLs, rg, rd, o, oz, kc, kb, ks, kx, on, og, od, ogd, A.run, evI, evOpt, evs, evP, argF, V.cs, binD, fzV, fzL, fzVs, dataVs, dataLs, V.data, L.data, unD, fillL, List.take_succ_cons, List.take_zero, List.drop_succ_cons, List.drop_zero, List.cons_append, ne_eq, Nat.reduceLT, Nat.reduceBEq, ↓reduceIte, Nat.reduceEqDiff, Nat.reduceAdd, Nat.reduceMul, Nat.reduceSub, Int.reduceToNat, Nat.reduceLeDiff, Int.reduceNeg, Int.reduceEq, Int.reduceLT, Int.reduceLE, Int.reduceBEq, Int.reduceBNe, Int.reduceToNat, dis, vdr, A.kind, A.xs, optX])
                                  try simp [trim]
                                · have ne : rightM m = false := by simp [rightM, tailB, k3, g4]
                                  (simp (disch := first | decide | omega | (intros; exact Eq.trans rfl rfl) | (simp only [puri]; done)) only [a14, msgL, within16_spec, h1, h2, h3, h4, h5, h6, h7, h8, k1, k2, (eq_true k3), hs, g1, g2, g3, g4, ne, vis, visL, visB, fillR, rowsAt, toDs, toD, ↓ops_cons, ↓ops_consz, fzTs, fzLs, rg, rd, o, oz, kc, kb, ks, kx, on, og, od, ogd, A.run, evI, evOpt, evs, evP, argF, V.cs, binD, fzV, fzL, fzVs, dataVs, dataLs, V.data, L.data, unD, fillL, List.take_succ_cons, List.take_zero, List.drop_succ_cons, List.drop_zero, List.cons_append, ne_eq, Nat.reduceLT, Nat.reduceBEq, ↓reduceIte, Nat.reduceEqDiff, Nat.reduceAdd, Nat.reduceMul, Nat.reduceSub, Int.reduceToNat, Nat.reduceLeDiff, Int.reduceNeg, Int.reduceEq, Int.reduceLT, Int.reduceLE, Int.reduceBEq, Int.reduceBNe, Int.reduceToNat, dis, vdr, A.kind, A.xs, optX])
                                  try simp [trim]
                              · have g3' := (not_congr inR_iff).1 g3
                                simp only [Bool.not_eq_true] at g3
                                have ne : rightM m = false := by
                                  by_cases z : 0 ≤ m.idx
                                  · have : ¬ m.idx ≤ m.size := fun h => g3' ⟨z, h⟩
                                    simp [rightM, tailB, k3, this]
                                  · have hd : headB m = false := decide_eq_false (by omega)
                                    simp [rightM, hd]
                                (simp (disch := first | decide | omega | (intros; exact Eq.trans rfl rfl) | (simp only [puri]; done)) only [a14, msgL, within16_spec, h1, h2, h3, h4, h5, h6, h7, h8, k1, k2, (eq_true k3), hs, g1, g2, g3, ne, vis, visL, visB, fillR, rowsAt, toDs, toD, ↓ops_cons, ↓ops_consz, fzTs, fzLs, rg, rd, o, oz, kc, kb, ks, kx, on, og, od, ogd, A.run, evI, evOpt, evs, evP, argF, V.cs, binD, fzV, fzL, fzVs, dataVs, dataLs, V.data, L.data, unD, fillL, List.take_succ_cons, List.take_zero, List.drop_succ_cons, List.drop_zero, List.cons_append, ne_eq, Nat.reduceLT, Nat.reduceBEq, ↓reduceIte, Nat.reduceEqDiff, Nat.reduceAdd, Nat.reduceMul, Nat.reduceSub, Int.reduceToNat, Nat.reduceLeDiff, Int.reduceNeg, Int.reduceEq, Int.reduceLT, Int.reduceLE, Int.reduceBEq, Int.reduceBNe, Int.reduceToNat, dis, vdr, A.kind, A.xs, optX])
                                try simp [trim]
                            · have g2' := (not_congr inR_iff).1 g2
                              simp only [Bool.not_eq_true] at g2
                              have hd : headB m = false := decide_eq_false (by omega)
                              have ne : rightM m = false := by simp [rightM, hd]
                              (simp (disch := first | decide | omega | (intros; exact Eq.trans rfl rfl) | (simp only [puri]; done)) only [a14, msgL, within16_spec, h1, h2, h3, h4, h5, h6, h7, h8, k1, k2, (eq_true k3), hs, g1, g2, ne, vis, visL, visB, fillR, rowsAt, toDs, toD, ↓ops_cons, ↓ops_consz, fzTs, fzLs, rg, rd, o, oz, kc, kb, ks, kx, on, og, od, ogd, A.run, evI, evOpt, evs, evP, argF, V.cs, binD, fzV, fzL, fzVs, dataVs, dataLs, V.data, L.data, unD, fillL, List.take_succ_cons, List.take_zero, List.drop_succ_cons, List.drop_zero, List.cons_append, ne_eq, Nat.reduceLT, Nat.reduceBEq, ↓reduceIte, Nat.reduceEqDiff, Nat.reduceAdd, Nat.reduceMul, Nat.reduceSub, Int.reduceToNat, Nat.reduceLeDiff, Int.reduceNeg, Int.reduceEq, Int.reduceLT, Int.reduceLE, Int.reduceBEq, Int.reduceBNe, Int.reduceToNat, dis, vdr, A.kind, A.xs, optX])
                              try simp [trim]
                          · have ne : rightM m = false := by
                              have : ¬ 0 < m.size := by omega
                              simp [rightM, tailB, k3, this]
                            (simp (disch := first | decide | omega | (intros; exact Eq.trans rfl rfl) | (simp only [puri]; done)) only [a14, msgL, within16_spec, h1, h2, h3, h4, h5, h6, h7, h8, k1, k2, (eq_true k3), hs, g1, ne, vis, visL, visB, fillR, rowsAt, toDs, toD, ↓ops_cons, ↓ops_consz, fzTs, fzLs, rg, rd, o, oz, kc, kb, ks, kx, on, og, od, ogd, A.run, evI, evOpt, evs, evP, argF, V.cs, binD, fzV, fzL, fzVs, dataVs, dataLs, V.data, L.data, unD, fillL, List.take_succ_cons, List.take_zero, List.drop_succ_cons, List.drop_zero, List.cons_append, ne_eq, Nat.reduceLT, Nat.reduceBEq, ↓reduceIte, Nat.reduceEqDiff, Nat.reduceAdd, Nat.reduceMul, Nat.reduceSub, Int.reduceToNat, Nat.reduceLeDiff, Int.reduceNeg, Int.reduceEq, Int.reduceLT, Int.reduceLE, Int.reduceBEq, Int.reduceBNe, Int.reduceToNat, dis, vdr, A.kind, A.xs, optX])
                            try simp [trim]
                        · have ne : rightM m = false := by
                            have : tailB m = false := by
                              rw [Bool.eq_false_iff]; intro h; exact e1 ((x3_iff m).2 (tail3 k3 h))
                            simp [rightM, this]
                          rw [decide_eq_false e1] at hs
                          simp only [msgL, List.map_nil] at hs
                          (simp (disch := first | decide | omega | (intros; exact Eq.trans rfl rfl) | (simp only [puri]; done)) only [a14, msgL, within16_spec, h1, h2, h3, h4, h5, h6, h7, h8, k1, k2, (eq_true k3), hs, ne, vis, visL, visB, fillR, rowsAt, toDs, toD, ↓ops_cons, ↓ops_consz, fzTs, fzLs, rg, rd, o, oz, kc, kb, ks, kx, on, og, od, ogd, A.run, evI, evOpt, evs, evP, argF, V.cs, binD, fzV, fzL, fzVs, dataVs, dataLs, V.data, L.data, unD, fillL, List.take_succ_cons, List.take_zero, List.drop_succ_cons, List.drop_zero, List.cons_append, ne_eq, Nat.reduceLT, Nat.reduceBEq, ↓reduceIte, Nat.reduceEqDiff, Nat.reduceAdd, Nat.reduceMul, Nat.reduceSub, Int.reduceToNat, Nat.reduceLeDiff, Int.reduceNeg, Int.reduceEq, Int.reduceLT, Int.reduceLE, Int.reduceBEq, Int.reduceBNe, Int.reduceToNat, dis, vdr, A.kind, A.xs, optX])
                          try simp [trim]
                      · have ne : rightM m = false := by simp [rightM, tailB, k1, k2, k3]
                        (simp (disch := first | decide | omega | (intros; exact Eq.trans rfl rfl) | (simp only [puri]; done)) only [a14, msgL, within16_spec, h1, h2, h3, h4, h5, h6, h7, h8, k1, k2, k3, ne, vis, visL, visB, fillR, rowsAt, toDs, toD, ↓ops_cons, ↓ops_consz, fzTs, fzLs, rg, rd, o, oz, kc, kb, ks, kx, on, og, od, ogd, A.run, evI, evOpt, evs, evP, argF, V.cs, binD, fzV, fzL, fzVs, dataVs, dataLs, V.data, L.data, unD, fillL, List.take_succ_cons, List.take_zero, List.drop_succ_cons, List.drop_zero, List.cons_append, ne_eq, Nat.reduceLT, Nat.reduceBEq, ↓reduceIte, Nat.reduceEqDiff, Nat.reduceAdd, Nat.reduceMul, Nat.reduceSub, Int.reduceToNat, Nat.reduceLeDiff, Int.reduceNeg, Int.reduceEq, Int.reduceLT, Int.reduceLE, Int.reduceBEq, Int.reduceBNe, Int.reduceToNat, dis, vdr, A.kind, A.xs, optX])
                        try simp [trim]
                · have h8' := (not_congr inR_iff).1 h8
                  simp only [Bool.not_eq_true] at h8
                  have hd : headB m = false := decide_eq_false (by omega)
                  have ne : rightM m = false := by simp [rightM, hd]
                  (simp (disch := first | decide | omega | (intros; exact Eq.trans rfl rfl) | (simp only [puri]; done)) only [a14, msgL, within16_spec, h1, h2, h3, h4, h5, h6, h7, h8, ne, vis, visL, visB, fillR, rowsAt, toDs, toD, ↓ops_cons, ↓ops_consz, fzTs, fzLs, rg, rd, o, oz, kc, kb, ks, kx, on, og, od, ogd, A.run, evI, evOpt, evs, evP, argF, V.cs, binD, fzV, fzL, fzVs, dataVs, dataLs, V.data, L.data, unD, fillL, List.take_succ_cons, List.take_zero, List.drop_succ_cons, List.drop_zero, List.cons_append, ne_eq, Nat.reduceLT, Nat.reduceBEq, ↓reduceIte, Nat.reduceEqDiff, Nat.reduceAdd, Nat.reduceMul, Nat.reduceSub, Int.reduceToNat, Nat.reduceLeDiff, Int.reduceNeg, Int.reduceEq, Int.reduceLT, Int.reduceLE, Int.reduceBEq, Int.reduceBNe, Int.reduceToNat, dis, vdr, A.kind, A.xs, optX])
                  try simp [trim]
              · have h7' := (not_congr inR_iff).1 h7
                simp only [Bool.not_eq_true] at h7
                have hd : headB m = false := decide_eq_false (by omega)
                have ne : rightM m = false := by simp [rightM, hd]
                (simp (disch := first | decide | omega | (intros; exact Eq.trans rfl rfl) | (simp only [puri]; done)) only [a14, msgL, within16_spec, h1, h2, h3, h4, h5, h6, h7, ne, vis, visL, visB, fillR, rowsAt, toDs, toD, ↓ops_cons, ↓ops_consz, fzTs, fzLs, rg, rd, o, oz, kc, kb, ks, kx, on, og, od, ogd, A.run, evI, evOpt, evs, evP, argF, V.cs, binD, fzV, fzL, fzVs, dataVs, dataLs, V.data, L.data, unD, fillL, List.take_succ_cons, List.take_zero, List.drop_succ_cons, List.drop_zero, List.cons_append, ne_eq, Nat.reduceLT, Nat.reduceBEq, ↓reduceIte, Nat.reduceEqDiff, Nat.reduceAdd, Nat.reduceMul, Nat.reduceSub, Int.reduceToNat, Nat.reduceLeDiff, Int.reduceNeg, Int.reduceEq, Int.reduceLT, Int.reduceLE, Int.reduceBEq, Int.reduceBNe, Int.reduceToNat, dis, vdr, A.kind, A.xs, optX])
                try simp [trim]
            · have h6' := (not_congr inR_iff).1 h6
              simp only [Bool.not_eq_true] at h6
              have hd : headB m = false := decide_eq_false (by omega)
              have ne : rightM m = false := by simp [rightM, hd]
              (simp (disch := first | decide | omega | (intros; exact Eq.trans rfl rfl) | (simp only [puri]; done)) only [a14, msgL, within16_spec, h1, h2, h3, h4, h5, h6, ne, vis, visL, visB, fillR, rowsAt, toDs, toD, ↓ops_cons, ↓ops_consz, fzTs, fzLs, rg, rd, o, oz, kc, kb, ks, kx, on, og, od, ogd, A.run, evI, evOpt, evs, evP, argF, V.cs, binD, fzV, fzL, fzVs, dataVs, dataLs, V.data, L.data, unD, fillL, List.take_succ_cons, List.take_zero, List.drop_succ_cons, List.drop_zero, List.cons_append, ne_eq, Nat.reduceLT, Nat.reduceBEq, ↓reduceIte, Nat.reduceEqDiff, Nat.reduceAdd, Nat.reduceMul, Nat.reduceSub, Int.reduceToNat, Nat.reduceLeDiff, Int.reduceNeg, Int.reduceEq, Int.reduceLT, Int.reduceLE, Int.reduceBEq, Int.reduceBNe, Int.reduceToNat, dis, vdr, A.kind, A.xs, optX])
              try simp [trim]
          · have h5' := (not_congr inR_iff).1 h5
            simp only [Bool.not_eq_true] at h5
            have hd : headB m = false := decide_eq_false (by omega)
            have ne : rightM m = false := by simp [rightM, hd]
            (simp (disch := first | decide | omega | (intros; exact Eq.trans rfl rfl) | (simp only [puri]; done)) only [a14, msgL, within16_spec, h1, h2, h3, h4, h5, ne, vis, visL, visB, fillR, rowsAt, toDs, toD, ↓ops_cons, ↓ops_consz, fzTs, fzLs, rg, rd, o, oz, kc, kb, ks, kx, on, og, od, ogd, A.run, evI, evOpt, evs, evP, argF, V.cs, binD, fzV, fzL, fzVs, dataVs, dataLs, V.data, L.data, unD, fillL, List.take_succ_cons, List.take_zero, List.drop_succ_cons, List.drop_zero, List.cons_append, ne_eq, Nat.reduceLT, Nat.reduceBEq, ↓reduceIte, Nat.reduceEqDiff, Nat.reduceAdd, Nat.reduceMul, Nat.reduceSub, Int.reduceToNat, Nat.reduceLeDiff, Int.reduceNeg, Int.reduceEq, Int.reduceLT, Int.reduceLE, Int.reduceBEq, Int.reduceBNe, Int.reduceToNat, dis, vdr, A.kind, A.xs, optX])
            try simp [trim]
    · have h2' := (not_congr inR_iff).1 h2
      simp only [Bool.not_eq_true] at h2
      have hd : headB m = false := decide_eq_false (by omega)
      have ne : rightM m = false := by simp [rightM, hd]
      (simp (disch := first | decide | omega | (intros; exact Eq.trans rfl rfl) | (simp only [puri]; done)) only [a14, msgL, within16_spec, h1, h2, ne, vis, visL, visB, fillR, rowsAt, toDs, toD, ↓ops_cons, ↓ops_consz, fzTs, fzLs, rg, rd, o, oz, kc, kb, ks, kx, on, og, od, ogd, A.run, evI, evOpt, evs, evP, argF, V.cs, binD, fzV, fzL, fzVs, dataVs, dataLs, V.data, L.data, unD, fillL, List.take_succ_cons, List.take_zero, List.drop_succ_cons, List.drop_zero, List.cons_append, ne_eq, Nat.reduceLT, Nat.reduceBEq, ↓reduceIte, Nat.reduceEqDiff, Nat.reduceAdd, Nat.reduceMul, Nat.reduceSub, Int.reduceToNat, Nat.reduceLeDiff, Int.reduceNeg, Int.reduceEq, Int.reduceLT, Int.reduceLE, Int.reduceBEq, Int.reduceBNe, Int.reduceToNat, dis, vdr, A.kind, A.xs, optX])
      try simp [trim]
  · have h1' := (not_congr inR_iff).1 h1
    simp only [Bool.not_eq_true] at h1
    have hd : headB m = false := decide_eq_false (by omega)
    have ne : rightM m = false := by simp [rightM, hd]
    (simp (disch := first | decide | omega | (intros; exact Eq.trans rfl rfl) | (simp only [puri]; done)) only [a14, msgL, within16_spec, h1, ne, vis, visL, visB, fillR, rowsAt, toDs, toD, ↓ops_cons, ↓ops_consz, fzTs, fzLs, rg, rd, o, oz, kc, kb, ks, kx, on, og, od, ogd, A.run, evI, evOpt, evs, evP, argF, V.cs, binD, fzV, fzL, fzVs, dataVs, dataLs, V.data, L.data, unD, fillL, List.take_succ_cons, List.take_zero, List.drop_succ_cons, List.drop_zero, List.cons_append, ne_eq, Nat.reduceLT, Nat.reduceBEq, ↓reduceIte, Nat.reduceEqDiff, Nat.reduceAdd, Nat.reduceMul, Nat.reduceSub, Int.reduceToNat, Nat.reduceLeDiff, Int.reduceNeg, Int.reduceEq, Int.reduceLT, Int.reduceLE, Int.reduceBEq, Int.reduceBNe, Int.reduceToNat, dis, vdr, A.kind, A.xs, optX])
    try simp [trim]

end Go.Proofs.Ytogleebbifpijaa
