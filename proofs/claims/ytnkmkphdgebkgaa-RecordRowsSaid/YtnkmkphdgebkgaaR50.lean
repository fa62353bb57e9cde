import Derived.Test.YtnkmkphdgebkgaaR49
set_option linter.unusedSimpArgs false
set_option linter.unusedVariables false
namespace Go.Proofs.Ytnkmkphdgebkgaa
open Go.Vi
set_option linter.unusedSimpArgs false

set_option maxRecDepth 8000 in
theorem recordRows_law1 (l : List Rec) (hl : l.length ≤ 9223372036854775807) (hr : ∀ r ∈ l, r.ok) (s : List UInt8) (hs : s.length ≤ 9223372036854775807) : call 6 [vl (l.map Rec.enc), vs s] [] = some (vb true, []) := by
  apply enterS s6 rfl
  have haw := awake_spec
  have hf := few_spec l 30 hl hr
  cases c1 : fewR l 30 with
  | false =>
    rw [c1] at hf
    (simp (disch := first | decide | omega | (intros; exact Eq.trans rfl rfl) | (simp only [puri]; done)) only [a6, haw, hf, vis, visL, visB, fillR, rowsAt, toDs, toD, ↓ops_cons, ↓ops_consz, fzTs, fzLs, rg, rd, o, oz, kc, kb, ks, kx, on, og, od, ogd, A.run, evI, evOpt, evs, evP, argF, V.cs, binD, fzV, fzL, fzVs, dataVs, dataLs, V.data, L.data, unD, fillL, List.take_succ_cons, List.take_zero, List.drop_succ_cons, List.drop_zero, List.cons_append, ne_eq, Nat.reduceLT, Nat.reduceBEq, ↓reduceIte, Nat.reduceEqDiff, Nat.reduceAdd, Nat.reduceMul, Nat.reduceSub, Int.reduceToNat, Nat.reduceLeDiff, Int.reduceNeg, Int.reduceEq, Int.reduceLT, Int.reduceLE, Int.reduceBEq, Int.reduceBNe, Int.reduceToNat, dis])
  | true =>
    rw [c1] at hf
    by_cases c2 : s.length ≤ 2000
    · have h30 := fewR_t c1
      have p1 := row_spec l (by omega) hr
      have p2 := refRow_spec l (by omega) hr
      have p3 := rows_spec s (by omega)
      have p4 := refRows_spec s (by omega)
      have hlen : (rowsF (s.length + 1 - 0) s 0).1.length ≤ s.length + 1 := by
        have : ∀ f a, a ≤ s.length → (rowsF f s a).1.length ≤ f := by
          intro f
          induction f with
          | zero => intro a h; simp [rowsF]
          | succ f ih =>
            intro a h
            rcases Nat.lt_or_ge a s.length with hal | hal
            · obtain ⟨⟨t, n, e⟩, hx⟩ : ∃ x, nextF s a = x := ⟨_, rfl⟩
              by_cases he : e = 0
              · subst he
                have := nextF_ok hx
                by_cases hg : (getR t).2 = 0
                · rw [rowsF_step hal hx hg]
                  have := ih n (by omega)
                  simp only [List.length_cons]; omega
                · rw [rowsF_bad hal hx hg]; simp
              · rw [rowsF_stop hal hx he]; simp
            · rw [rowsF_end hal]; simp
        have := this (s.length + 1 - 0) 0 (Nat.zero_le _)
        omega
      obtain ⟨⟨q, n, e⟩, hx⟩ : ∃ x, rowsF (s.length + 1 - 0) s 0 = x := ⟨_, rfl⟩
      rw [hx] at p3 p4 hlen
      simp only [rowsV] at p3 p4 hlen
      have p5 := same_spec q q (by omega)
      rw [decide_eq_true rfl] at p5
      have hbb : ∀ x : List UInt8, (x == x) = true := fun x => beq_self_eq_true x
      unfold rowRV at p1 p2
      by_cases c : rowE l = 0
      · rw [if_pos c] at p1 p2
        (simp (disch := first | decide | omega | (intros; exact Eq.trans rfl rfl) | (simp only [puri]; done)) only [a6, haw, hf, p1, p2, p3, p4, p5, hbb, vis, visL, visB, fillR, rowsAt, toDs, toD, ↓ops_cons, ↓ops_consz, fzTs, fzLs, rg, rd, o, oz, kc, kb, ks, kx, on, og, od, ogd, A.run, evI, evOpt, evs, evP, argF, V.cs, binD, fzV, fzL, fzVs, dataVs, dataLs, V.data, L.data, unD, fillL, List.take_succ_cons, List.take_zero, List.drop_succ_cons, List.drop_zero, List.cons_append, ne_eq, Nat.reduceLT, Nat.reduceBEq, ↓reduceIte, Nat.reduceEqDiff, Nat.reduceAdd, Nat.reduceMul, Nat.reduceSub, Int.reduceToNat, Nat.reduceLeDiff, Int.reduceNeg, Int.reduceEq, Int.reduceLT, Int.reduceLE, Int.reduceBEq, Int.reduceBNe, Int.reduceToNat, dis])
        try rfl
      · rw [if_neg c] at p1 p2
        (simp (disch := first | decide | omega | (intros; exact Eq.trans rfl rfl) | (simp only [puri]; done)) only [a6, haw, hf, p1, p2, p3, p4, p5, hbb, vis, visL, visB, fillR, rowsAt, toDs, toD, ↓ops_cons, ↓ops_consz, fzTs, fzLs, rg, rd, o, oz, kc, kb, ks, kx, on, og, od, ogd, A.run, evI, evOpt, evs, evP, argF, V.cs, binD, fzV, fzL, fzVs, dataVs, dataLs, V.data, L.data, unD, fillL, List.take_succ_cons, List.take_zero, List.drop_succ_cons, List.drop_zero, List.cons_append, ne_eq, Nat.reduceLT, Nat.reduceBEq, ↓reduceIte, Nat.reduceEqDiff, Nat.reduceAdd, Nat.reduceMul, Nat.reduceSub, Int.reduceToNat, Nat.reduceLeDiff, Int.reduceNeg, Int.reduceEq, Int.reduceLT, Int.reduceLE, Int.reduceBEq, Int.reduceBNe, Int.reduceToNat, dis])
        try rfl
    · (simp (disch := first | decide | omega | (intros; exact Eq.trans rfl rfl) | (simp only [puri]; done)) only [a6, haw, hf, vis, visL, visB, fillR, rowsAt, toDs, toD, ↓ops_cons, ↓ops_consz, fzTs, fzLs, rg, rd, o, oz, kc, kb, ks, kx, on, og, od, ogd, A.run, evI, evOpt, evs, evP, argF, V.cs, binD, fzV, fzL, fzVs, dataVs, dataLs, V.data, L.data, unD, fillL, List.take_succ_cons, List.take_zero, List.drop_succ_cons, List.drop_zero, List.cons_append, ne_eq, Nat.reduceLT, Nat.reduceBEq, ↓reduceIte, Nat.reduceEqDiff, Nat.reduceAdd, Nat.reduceMul, Nat.reduceSub, Int.reduceToNat, Nat.reduceLeDiff, Int.reduceNeg, Int.reduceEq, Int.reduceLT, Int.reduceLE, Int.reduceBEq, Int.reduceBNe, Int.reduceToNat, dis])
def sizeS (l : List Rec) (i : Nat) : Nat := (rowS (l.take i)).length
set_option maxRecDepth 8000 in
theorem recordBack_law1 (l : List Rec) (hl : l.length ≤ 9223372036854775807) (hr : ∀ r ∈ l, r.ok) : call 7 [vl (l.map Rec.enc)] [] = some (vb true, []) := by
  apply enterS s7 rfl
  have haw := awake_spec
  have hf := few_spec l 30 hl hr
  cases c1 : fewR l 30 with
  | false =>
    rw [c1] at hf
    (simp (disch := first | decide | omega | (intros; exact Eq.trans rfl rfl) | (simp only [puri]; done)) only [a7, haw, hf, vis, visL, visB, fillR, rowsAt, toDs, toD, ↓ops_cons, ↓ops_consz, fzTs, fzLs, rg, rd, o, oz, kc, kb, ks, kx, on, og, od, ogd, A.run, evI, evOpt, evs, evP, argF, V.cs, binD, fzV, fzL, fzVs, dataVs, dataLs, V.data, L.data, unD, fillL, List.take_succ_cons, List.take_zero, List.drop_succ_cons, List.drop_zero, List.cons_append, ne_eq, Nat.reduceLT, Nat.reduceBEq, ↓reduceIte, Nat.reduceEqDiff, Nat.reduceAdd, Nat.reduceMul, Nat.reduceSub, Int.reduceToNat, Nat.reduceLeDiff, Int.reduceNeg, Int.reduceEq, Int.reduceLT, Int.reduceLE, Int.reduceBEq, Int.reduceBNe, Int.reduceToNat, dis])
  | true =>
    rw [c1] at hf
    have h30 := fewR_t c1
    have p1 := row_spec l (by omega) hr
    unfold rowRV at p1
    have hbb : (([] : List UInt8) == []) = true := by decide
    by_cases c : rowE l = 0
    · rw [if_pos c] at p1
      have hall := rowE_all c
      have hle := rowS_le hall
      (simp (disch := first | decide | omega | (intros; exact Eq.trans rfl rfl) | (simp only [puri]; done)) only [a7, haw, hf, p1, vis, visL, visB, fillR, rowsAt, toDs, toD, ↓ops_cons, ↓ops_consz, fzTs, fzLs, rg, rd, o, oz, kc, kb, ks, kx, on, og, od, ogd, A.run, evI, evOpt, evs, evP, argF, V.cs, binD, fzV, fzL, fzVs, dataVs, dataLs, V.data, L.data, unD, fillL, List.take_succ_cons, List.take_zero, List.drop_succ_cons, List.drop_zero, List.cons_append, ne_eq, Nat.reduceLT, Nat.reduceBEq, ↓reduceIte, Nat.reduceEqDiff, Nat.reduceAdd, Nat.reduceMul, Nat.reduceSub, Int.reduceToNat, Nat.reduceLeDiff, Int.reduceNeg, Int.reduceEq, Int.reduceLT, Int.reduceLE, Int.reduceBEq, Int.reduceBNe, Int.reduceToNat, dis])
      refine loop_data (σ := Nat) (fun i => l.length - i) (fun i => i ≤ l.length ∧ sizeS l i ≤ 82 * i) (fun i => [vl (l.map Rec.enc), vs (rowS l), vi 0, vi (sizeS l i), vi i]) (fun i => (vb true, ([] : Hp))) (fun _ => by simp only [vis, visL, visB, fillR, rowsAt, toDs, toD, ↓ops_cons, ↓ops_consz, fzTs, fzLs, rg, rd, o, oz, kc, kb, ks, kx, on, og, od, ogd, A.run, evI, evOpt, evs, evP, argF, V.cs, binD, fzV, fzL, fzVs, dataVs, dataLs, V.data, L.data, unD, fillL, List.take_succ_cons, List.take_zero, List.drop_succ_cons, List.drop_zero, List.cons_append, ne_eq, Nat.reduceLT, Nat.reduceBEq, ↓reduceIte, Nat.reduceEqDiff, Nat.reduceAdd, Nat.reduceMul, Nat.reduceSub, Int.reduceToNat, Nat.reduceLeDiff, Int.reduceNeg, Int.reduceEq, Int.reduceLT, Int.reduceLE, Int.reduceBEq, Int.reduceBNe, Int.reduceToNat]) ?_ 0 ⟨Nat.zero_le _, by simp [sizeS, rowS]⟩ _ (by simp [vis, visL, visB, fillR, rowsAt, toDs, toD, ↓ops_cons, ↓ops_consz, fzTs, fzLs, rg, rd, o, oz, kc, kb, ks, kx, on, og, od, ogd, A.run, evI, evOpt, evs, evP, argF, V.cs, binD, fzV, fzL, fzVs, dataVs, dataLs, V.data, L.data, unD, fillL, List.take_succ_cons, List.take_zero, List.drop_succ_cons, List.drop_zero, List.cons_append, ne_eq, Nat.reduceLT, Nat.reduceBEq, ↓reduceIte, Nat.reduceEqDiff, Nat.reduceAdd, Nat.reduceMul, Nat.reduceSub, Int.reduceToNat, Nat.reduceLeDiff, Int.reduceNeg, Int.reduceEq, Int.reduceLT, Int.reduceLE, Int.reduceBEq, Int.reduceBNe, Int.reduceToNat, sizeS, rowS])
      rintro i ⟨hi, hz⟩ R hR
      rcases Nat.lt_or_ge i l.length with h | h
      · have w0 := hall _ (List.getElem_mem h)
        have p2 := right_spec l[i] (hr _ (List.getElem_mem h))
        have p3 := sizeRec_spec l[i] (hr _ (List.getElem_mem h))
        have hs : sizeS l (i + 1) = sizeS l i + sizeR l[i] := by
          unfold sizeS sizeR; rw [rowS_succ l i h, List.length_append, if_pos w0]; rfl
        have hsl := sizeR_le (r := l[i])
        rw [decide_eq_true w0] at p2
        (simp (disch := first | decide | omega | (intros; exact Eq.trans rfl rfl) | (simp only [puri]; done)) only [a7_0, Rec.len, Rec.tk, Rec.tkL, Rec.dat, Rec.lenL, p2, p3, vis, visL, visB, fillR, rowsAt, toDs, toD, ↓ops_cons, ↓ops_consz, fzTs, fzLs, rg, rd, o, oz, kc, kb, ks, kx, on, og, od, ogd, A.run, evI, evOpt, evs, evP, argF, V.cs, binD, fzV, fzL, fzVs, dataVs, dataLs, V.data, L.data, unD, fillL, List.take_succ_cons, List.take_zero, List.drop_succ_cons, List.drop_zero, List.cons_append, ne_eq, Nat.reduceLT, Nat.reduceBEq, ↓reduceIte, Nat.reduceEqDiff, Nat.reduceAdd, Nat.reduceMul, Nat.reduceSub, Int.reduceToNat, Nat.reduceLeDiff, Int.reduceNeg, Int.reduceEq, Int.reduceLT, Int.reduceLE, Int.reduceBEq, Int.reduceBNe, Int.reduceToNat, dis])
        exact hR (i + 1) (by omega) ⟨by omega, by omega⟩ _ (by simp [vis, visL, visB, fillR, rowsAt, toDs, toD, ↓ops_cons, ↓ops_consz, fzTs, fzLs, rg, rd, o, oz, kc, kb, ks, kx, on, og, od, ogd, A.run, evI, evOpt, evs, evP, argF, V.cs, binD, fzV, fzL, fzVs, dataVs, dataLs, V.data, L.data, unD, fillL, List.take_succ_cons, List.take_zero, List.drop_succ_cons, List.drop_zero, List.cons_append, ne_eq, Nat.reduceLT, Nat.reduceBEq, ↓reduceIte, Nat.reduceEqDiff, Nat.reduceAdd, Nat.reduceMul, Nat.reduceSub, Int.reduceToNat, Nat.reduceLeDiff, Int.reduceNeg, Int.reduceEq, Int.reduceLT, Int.reduceLE, Int.reduceBEq, Int.reduceBNe, Int.reduceToNat, hs])
      · have p4 := rows_spec (rowS l) (by omega)
        have hrow := rowsF_row l [] ((rowS l).length + 1 - 0) hall (by
          have : ∀ l : List Rec, l.length ≤ (rowS l).length := by
            intro l
            induction l with
            | nil => simp
            | cons r l ih =>
              have e : rowS (r :: l) = frameR r ++ rowS l := rfl
              have := frame_pos (bodyF r)
              have e2 : (frameR r).length = (frameF (bodyF r)).length := rfl
              rw [e, List.length_append, List.length_cons]; omega
          have := this l
          omega)
        simp only [List.nil_append, List.length_nil] at hrow
        rw [hrow] at p4
        simp only [rowsV] at p4
        have p5 := same_spec l l hl
        rw [decide_eq_true rfl] at p5
        have hz : sizeS l i = (rowS l).length := by unfold sizeS; rw [List.take_of_length_le h]
        rw [hz] at *
        (simp (disch := first | decide | omega | (intros; exact Eq.trans rfl rfl) | (simp only [puri]; done)) only [a7_0, haw, p4, p5, vis, visL, visB, fillR, rowsAt, toDs, toD, ↓ops_cons, ↓ops_consz, fzTs, fzLs, rg, rd, o, oz, kc, kb, ks, kx, on, og, od, ogd, A.run, evI, evOpt, evs, evP, argF, V.cs, binD, fzV, fzL, fzVs, dataVs, dataLs, V.data, L.data, unD, fillL, List.take_succ_cons, List.take_zero, List.drop_succ_cons, List.drop_zero, List.cons_append, ne_eq, Nat.reduceLT, Nat.reduceBEq, ↓reduceIte, Nat.reduceEqDiff, Nat.reduceAdd, Nat.reduceMul, Nat.reduceSub, Int.reduceToNat, Nat.reduceLeDiff, Int.reduceNeg, Int.reduceEq, Int.reduceLT, Int.reduceLE, Int.reduceBEq, Int.reduceBNe, Int.reduceToNat, dis])
        try rfl
    · rw [if_neg c] at p1
      (simp (disch := first | decide | omega | (intros; exact Eq.trans rfl rfl) | (simp only [puri]; done)) only [a7, haw, hf, p1, vis, visL, visB, fillR, rowsAt, toDs, toD, ↓ops_cons, ↓ops_consz, fzTs, fzLs, rg, rd, o, oz, kc, kb, ks, kx, on, og, od, ogd, A.run, evI, evOpt, evs, evP, argF, V.cs, binD, fzV, fzL, fzVs, dataVs, dataLs, V.data, L.data, unD, fillL, List.take_succ_cons, List.take_zero, List.drop_succ_cons, List.drop_zero, List.cons_append, ne_eq, Nat.reduceLT, Nat.reduceBEq, ↓reduceIte, Nat.reduceEqDiff, Nat.reduceAdd, Nat.reduceMul, Nat.reduceSub, Int.reduceToNat, Nat.reduceLeDiff, Int.reduceNeg, Int.reduceEq, Int.reduceLT, Int.reduceLE, Int.reduceBEq, Int.reduceBNe, Int.reduceToNat, dis])
      refine loop_data (σ := Nat) (fun i => l.length - i) (fun i => i ≤ l.length ∧ rowE (l.drop i) = rowE l ∧ sizeS l i ≤ 82 * i) (fun i => [vl (l.map Rec.enc), vs [], vi (rowE l), vi (sizeS l i), vi i]) (fun i => (vb true, ([] : Hp))) (fun _ => by simp only [vis, visL, visB, fillR, rowsAt, toDs, toD, ↓ops_cons, ↓ops_consz, fzTs, fzLs, rg, rd, o, oz, kc, kb, ks, kx, on, og, od, ogd, A.run, evI, evOpt, evs, evP, argF, V.cs, binD, fzV, fzL, fzVs, dataVs, dataLs, V.data, L.data, unD, fillL, List.take_succ_cons, List.take_zero, List.drop_succ_cons, List.drop_zero, List.cons_append, ne_eq, Nat.reduceLT, Nat.reduceBEq, ↓reduceIte, Nat.reduceEqDiff, Nat.reduceAdd, Nat.reduceMul, Nat.reduceSub, Int.reduceToNat, Nat.reduceLeDiff, Int.reduceNeg, Int.reduceEq, Int.reduceLT, Int.reduceLE, Int.reduceBEq, Int.reduceBNe, Int.reduceToNat]) ?_ 0 ⟨Nat.zero_le _, rfl, by simp [sizeS, rowS]⟩ _ (by simp [vis, visL, visB, fillR, rowsAt, toDs, toD, ↓ops_cons, ↓ops_consz, fzTs, fzLs, rg, rd, o, oz, kc, kb, ks, kx, on, og, od, ogd, A.run, evI, evOpt, evs, evP, argF, V.cs, binD, fzV, fzL, fzVs, dataVs, dataLs, V.data, L.data, unD, fillL, List.take_succ_cons, List.take_zero, List.drop_succ_cons, List.drop_zero, List.cons_append, ne_eq, Nat.reduceLT, Nat.reduceBEq, ↓reduceIte, Nat.reduceEqDiff, Nat.reduceAdd, Nat.reduceMul, Nat.reduceSub, Int.reduceToNat, Nat.reduceLeDiff, Int.reduceNeg, Int.reduceEq, Int.reduceLT, Int.reduceLE, Int.reduceBEq, Int.reduceBNe, Int.reduceToNat, sizeS, rowS])
      rintro i ⟨hi, he, hz⟩ R hR
      rcases Nat.lt_or_ge i l.length with h | h
      · have p2 := right_spec l[i] (hr _ (List.getElem_mem h))
        by_cases w0 : whyF l[i] = 0
        · have p3 := sizeRec_spec l[i] (hr _ (List.getElem_mem h))
          have hs : sizeS l (i + 1) = sizeS l i + sizeR l[i] := by
            unfold sizeS sizeR; rw [rowS_succ l i h, List.length_append, if_pos w0]; rfl
          have hsl := sizeR_le (r := l[i])
          rw [decide_eq_true w0] at p2
          (simp (disch := first | decide | omega | (intros; exact Eq.trans rfl rfl) | (simp only [puri]; done)) only [a7_0, Rec.len, Rec.tk, Rec.tkL, Rec.dat, Rec.lenL, p2, p3, vis, visL, visB, fillR, rowsAt, toDs, toD, ↓ops_cons, ↓ops_consz, fzTs, fzLs, rg, rd, o, oz, kc, kb, ks, kx, on, og, od, ogd, A.run, evI, evOpt, evs, evP, argF, V.cs, binD, fzV, fzL, fzVs, dataVs, dataLs, V.data, L.data, unD, fillL, List.take_succ_cons, List.take_zero, List.drop_succ_cons, List.drop_zero, List.cons_append, ne_eq, Nat.reduceLT, Nat.reduceBEq, ↓reduceIte, Nat.reduceEqDiff, Nat.reduceAdd, Nat.reduceMul, Nat.reduceSub, Int.reduceToNat, Nat.reduceLeDiff, Int.reduceNeg, Int.reduceEq, Int.reduceLT, Int.reduceLE, Int.reduceBEq, Int.reduceBNe, Int.reduceToNat, dis])
          exact hR (i + 1) (by omega) ⟨by omega, by rw [rowE_step l i h w0, he], by omega⟩ _ (by simp [vis, visL, visB, fillR, rowsAt, toDs, toD, ↓ops_cons, ↓ops_consz, fzTs, fzLs, rg, rd, o, oz, kc, kb, ks, kx, on, og, od, ogd, A.run, evI, evOpt, evs, evP, argF, V.cs, binD, fzV, fzL, fzVs, dataVs, dataLs, V.data, L.data, unD, fillL, List.take_succ_cons, List.take_zero, List.drop_succ_cons, List.drop_zero, List.cons_append, ne_eq, Nat.reduceLT, Nat.reduceBEq, ↓reduceIte, Nat.reduceEqDiff, Nat.reduceAdd, Nat.reduceMul, Nat.reduceSub, Int.reduceToNat, Nat.reduceLeDiff, Int.reduceNeg, Int.reduceEq, Int.reduceLT, Int.reduceLE, Int.reduceBEq, Int.reduceBNe, Int.reduceToNat, hs])
        · rw [decide_eq_false w0] at p2
          (simp (disch := first | decide | omega | (intros; exact Eq.trans rfl rfl) | (simp only [puri]; done)) only [a7_0, Rec.len, Rec.tk, Rec.tkL, Rec.dat, Rec.lenL, p2, haw, hbb, vis, visL, visB, fillR, rowsAt, toDs, toD, ↓ops_cons, ↓ops_consz, fzTs, fzLs, rg, rd, o, oz, kc, kb, ks, kx, on, og, od, ogd, A.run, evI, evOpt, evs, evP, argF, V.cs, binD, fzV, fzL, fzVs, dataVs, dataLs, V.data, L.data, unD, fillL, List.take_succ_cons, List.take_zero, List.drop_succ_cons, List.drop_zero, List.cons_append, ne_eq, Nat.reduceLT, Nat.reduceBEq, ↓reduceIte, Nat.reduceEqDiff, Nat.reduceAdd, Nat.reduceMul, Nat.reduceSub, Int.reduceToNat, Nat.reduceLeDiff, Int.reduceNeg, Int.reduceEq, Int.reduceLT, Int.reduceLE, Int.reduceBEq, Int.reduceBNe, Int.reduceToNat, dis])
          try rfl
      · have : rowE l = 0 := by rw [← he, List.drop_eq_nil_of_le h]; rfl
        exact absurd this c
theorem recordRows_pure (xs : List V) (h : wfAs [(false, [.l [.i .i64, .i .i64, .s]]), (false, [.s])] xs) : call 6 xs [] = some (vb true, []) := by
  simp only [wfAs, wfA] at h
  obtain ⟨_, _, rfl, ⟨d, rfl, hd⟩, _, _, rfl, ⟨e, rfl, he⟩, rfl⟩ := h
  simp only [wfRow, wfT] at hd he
  obtain ⟨_, _, e1, ⟨rows, rfl, hl, hr⟩, rfl⟩ := hd
  obtain ⟨_, _, e2, ⟨b, rfl, hb⟩, rfl⟩ := he
  cases e1; cases e2
  obtain ⟨l, rfl, ha⟩ := rows_map Rec.of rows hr
  exact recordRows_law1 l (by simpa using hl) ha b hb
theorem recordBack_pure (xs : List V) (h : wfAs [(false, [.l [.i .i64, .i .i64, .s]])] xs) : call 7 xs [] = some (vb true, []) := by
  simp only [wfAs, wfA] at h
  obtain ⟨_, _, rfl, ⟨d, rfl, hd⟩, rfl⟩ := h
  simp only [wfRow, wfT] at hd
  obtain ⟨_, _, e1, ⟨rows, rfl, hl, hr⟩, rfl⟩ := hd
  cases e1
  obtain ⟨l, rfl, ha⟩ := rows_map Rec.of rows hr
  exact recordBack_law1 l (by simpa using hl) ha
end Go.Proofs.Ytnkmkphdgebkgaa
