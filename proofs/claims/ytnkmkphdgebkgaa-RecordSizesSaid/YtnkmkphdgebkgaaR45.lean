import Derived.Test.YtnkmkphdgebkgaaR44
set_option linter.unusedSimpArgs false
set_option linter.unusedVariables false
namespace Go.Proofs.Ytnkmkphdgebkgaa
open Go.Vi
set_option linter.unusedSimpArgs false

set_option maxRecDepth 8000 in
theorem recordTells_law1 (r : Rec) (hr : r.ok) (b : List UInt8) (hb : b.length ≤ 9223372036854775807) : call 4 [.agg (r.enc.map .d), vs b] [] = some (vb true, []) := by
  apply enterS s4 rfl
  have haw := awake_spec
  have hd := hr.2.2
  by_cases c1 : r.da.length ≤ 300
  · by_cases c2 : b.length ≤ 300
    · have p1 := putRec_spec r hr
      have p2 := refPutRec_spec r hr
      have p3 := get_spec b (by omega)
      have p4 := refGet_spec b (by omega)
      have p5 := right_spec r hr
      have p6 := refRight_spec r
      have p7 := sizeRec_spec r hr
      have p8 := refSizeRec_spec r hr
      obtain ⟨⟨q, e⟩, hq⟩ : ∃ x, getR b = x := ⟨_, rfl⟩
      rw [hq] at p3 p4
      simp only [recV] at p3 p4
      have hbb : ∀ x : List UInt8, (x == x) = true := fun x => beq_self_eq_true x
      have hdd : decide (q = q) = true := by simp
      unfold putR at p1 p2
      by_cases c : whyF r = 0
      · rw [if_pos c] at p1 p2
        (simp (disch := first | decide | omega | (intros; exact Eq.trans rfl rfl) | (simp only [puri]; done)) only [a4, Rec.len, Rec.tkL, Rec.dat, Rec.lenL, Rec.tk, Rec.fd0, Rec.fd1, Rec.fd2, Rec.at0, Rec.at1, Rec.at2, haw, p1, p2, p3, p4, p5, p6, p7, p8, hbb, Rec.eqs, hdd, vis, visL, visB, fillR, rowsAt, toDs, toD, ↓ops_cons, ↓ops_consz, fzTs, fzLs, rg, rd, o, oz, kc, kb, ks, kx, on, og, od, ogd, A.run, evI, evOpt, evs, evP, argF, V.cs, binD, fzV, fzL, fzVs, dataVs, dataLs, V.data, L.data, unD, fillL, List.take_succ_cons, List.take_zero, List.drop_succ_cons, List.drop_zero, List.cons_append, ne_eq, Nat.reduceLT, Nat.reduceBEq, ↓reduceIte, Nat.reduceEqDiff, Nat.reduceAdd, Nat.reduceMul, Nat.reduceSub, Int.reduceToNat, Nat.reduceLeDiff, Int.reduceNeg, Int.reduceEq, Int.reduceLT, Int.reduceLE, Int.reduceBEq, Int.reduceBNe, Int.reduceToNat, dis])
        try simp [trim, V.refs, L.refs]
      · rw [if_neg c] at p1 p2
        (simp (disch := first | decide | omega | (intros; exact Eq.trans rfl rfl) | (simp only [puri]; done)) only [a4, Rec.len, Rec.tkL, Rec.dat, Rec.lenL, Rec.tk, Rec.fd0, Rec.fd1, Rec.fd2, Rec.at0, Rec.at1, Rec.at2, haw, p1, p2, p3, p4, p5, p6, p7, p8, hbb, Rec.eqs, hdd, vis, visL, visB, fillR, rowsAt, toDs, toD, ↓ops_cons, ↓ops_consz, fzTs, fzLs, rg, rd, o, oz, kc, kb, ks, kx, on, og, od, ogd, A.run, evI, evOpt, evs, evP, argF, V.cs, binD, fzV, fzL, fzVs, dataVs, dataLs, V.data, L.data, unD, fillL, List.take_succ_cons, List.take_zero, List.drop_succ_cons, List.drop_zero, List.cons_append, ne_eq, Nat.reduceLT, Nat.reduceBEq, ↓reduceIte, Nat.reduceEqDiff, Nat.reduceAdd, Nat.reduceMul, Nat.reduceSub, Int.reduceToNat, Nat.reduceLeDiff, Int.reduceNeg, Int.reduceEq, Int.reduceLT, Int.reduceLE, Int.reduceBEq, Int.reduceBNe, Int.reduceToNat, dis])
        try simp [trim, V.refs, L.refs]
    · (simp (disch := first | decide | omega | (intros; exact Eq.trans rfl rfl) | (simp only [puri]; done)) only [a4, Rec.len, Rec.tkL, Rec.dat, Rec.lenL, Rec.tk, Rec.fd0, Rec.fd1, Rec.fd2, Rec.at0, Rec.at1, Rec.at2, haw, vis, visL, visB, fillR, rowsAt, toDs, toD, ↓ops_cons, ↓ops_consz, fzTs, fzLs, rg, rd, o, oz, kc, kb, ks, kx, on, og, od, ogd, A.run, evI, evOpt, evs, evP, argF, V.cs, binD, fzV, fzL, fzVs, dataVs, dataLs, V.data, L.data, unD, fillL, List.take_succ_cons, List.take_zero, List.drop_succ_cons, List.drop_zero, List.cons_append, ne_eq, Nat.reduceLT, Nat.reduceBEq, ↓reduceIte, Nat.reduceEqDiff, Nat.reduceAdd, Nat.reduceMul, Nat.reduceSub, Int.reduceToNat, Nat.reduceLeDiff, Int.reduceNeg, Int.reduceEq, Int.reduceLT, Int.reduceLE, Int.reduceBEq, Int.reduceBNe, Int.reduceToNat, dis])
  · (simp (disch := first | decide | omega | (intros; exact Eq.trans rfl rfl) | (simp only [puri]; done)) only [a4, Rec.len, Rec.tkL, Rec.dat, Rec.lenL, Rec.tk, Rec.fd0, Rec.fd1, Rec.fd2, Rec.at0, Rec.at1, Rec.at2, haw, vis, visL, visB, fillR, rowsAt, toDs, toD, ↓ops_cons, ↓ops_consz, fzTs, fzLs, rg, rd, o, oz, kc, kb, ks, kx, on, og, od, ogd, A.run, evI, evOpt, evs, evP, argF, V.cs, binD, fzV, fzL, fzVs, dataVs, dataLs, V.data, L.data, unD, fillL, List.take_succ_cons, List.take_zero, List.drop_succ_cons, List.drop_zero, List.cons_append, ne_eq, Nat.reduceLT, Nat.reduceBEq, ↓reduceIte, Nat.reduceEqDiff, Nat.reduceAdd, Nat.reduceMul, Nat.reduceSub, Int.reduceToNat, Nat.reduceLeDiff, Int.reduceNeg, Int.reduceEq, Int.reduceLT, Int.reduceLE, Int.reduceBEq, Int.reduceBNe, Int.reduceToNat, dis])
theorem recordOnce_law1 (b : List UInt8) (hb : b.length ≤ 9223372036854775807) : call 3 [vs b] [] = some (vb true, []) := by
  apply enterS s3 rfl
  have haw := awake_spec
  by_cases c2 : b.length ≤ 300
  · have p3 := get_spec b (by omega)
    obtain ⟨hok, hbd⟩ := getR_ok hb
    have her := @getR_err b
    obtain ⟨⟨q, e⟩, hq⟩ : ∃ x, getR b = x := ⟨_, rfl⟩
    rw [hq] at p3 hok hbd her
    simp only [recV] at p3 hok hbd her
    by_cases c : e = 0
    · subst c
      obtain ⟨w0, bd⟩ := hbd rfl
      have p1 := putRec_spec q hok
      unfold putR at p1
      rw [if_pos w0, bd] at p1
      have hl : (frameF b).length = nd b.length + 4 + b.length := frameF_len b
      have hn := nd_le9 (n := b.length) (by omega)
      have hd := frame_drop b ((frameF b).length - b.length) (by omega)
      have hi : (((frameF b).length : Nat) : Int) - ((b.length : Nat) : Int) = (((frameF b).length - b.length : Nat) : Int) := by omega
      have hbb : (b == b) = true := beq_self_eq_true b
      have ht : (frameF b).take (frameF b).length = frameF b := List.take_length
      generalize frameF b = w at *
      (simp (disch := first | decide | omega | (intros; exact Eq.trans rfl rfl) | (simp only [puri]; done)) only [a3, Rec.len, Rec.tkL, Rec.dat, Rec.lenL, haw, p3, p1, hi, ht, hd, hbb, vis, visL, visB, fillR, rowsAt, toDs, toD, ↓ops_cons, ↓ops_consz, fzTs, fzLs, rg, rd, o, oz, kc, kb, ks, kx, on, og, od, ogd, A.run, evI, evOpt, evs, evP, argF, V.cs, binD, fzV, fzL, fzVs, dataVs, dataLs, V.data, L.data, unD, fillL, List.take_succ_cons, List.take_zero, List.drop_succ_cons, List.drop_zero, List.cons_append, ne_eq, Nat.reduceLT, Nat.reduceBEq, ↓reduceIte, Nat.reduceEqDiff, Nat.reduceAdd, Nat.reduceMul, Nat.reduceSub, Int.reduceToNat, Nat.reduceLeDiff, Int.reduceNeg, Int.reduceEq, Int.reduceLT, Int.reduceLE, Int.reduceBEq, Int.reduceBNe, Int.reduceToNat, dis])
    · have hz := her c
      subst hz
      have hsc : scEqs [0, 0, 2] (List.map L.d (Rec.enc ⟨0, 0, []⟩)) [L.d (.i .i64 0), .d (.i .i64 0), .d (.s [])] = some true := by rfl
      (simp (disch := first | decide | omega | (intros; exact Eq.trans rfl rfl) | (simp only [puri]; done)) only [a3, Rec.len, Rec.tkL, Rec.dat, Rec.lenL, haw, p3, hsc, vis, visL, visB, fillR, rowsAt, toDs, toD, ↓ops_cons, ↓ops_consz, fzTs, fzLs, rg, rd, o, oz, kc, kb, ks, kx, on, og, od, ogd, A.run, evI, evOpt, evs, evP, argF, V.cs, binD, fzV, fzL, fzVs, dataVs, dataLs, V.data, L.data, unD, fillL, List.take_succ_cons, List.take_zero, List.drop_succ_cons, List.drop_zero, List.cons_append, ne_eq, Nat.reduceLT, Nat.reduceBEq, ↓reduceIte, Nat.reduceEqDiff, Nat.reduceAdd, Nat.reduceMul, Nat.reduceSub, Int.reduceToNat, Nat.reduceLeDiff, Int.reduceNeg, Int.reduceEq, Int.reduceLT, Int.reduceLE, Int.reduceBEq, Int.reduceBNe, Int.reduceToNat, dis])
  · (simp (disch := first | decide | omega | (intros; exact Eq.trans rfl rfl) | (simp only [puri]; done)) only [a3, haw, vis, visL, visB, fillR, rowsAt, toDs, toD, ↓ops_cons, ↓ops_consz, fzTs, fzLs, rg, rd, o, oz, kc, kb, ks, kx, on, og, od, ogd, A.run, evI, evOpt, evs, evP, argF, V.cs, binD, fzV, fzL, fzVs, dataVs, dataLs, V.data, L.data, unD, fillL, List.take_succ_cons, List.take_zero, List.drop_succ_cons, List.drop_zero, List.cons_append, ne_eq, Nat.reduceLT, Nat.reduceBEq, ↓reduceIte, Nat.reduceEqDiff, Nat.reduceAdd, Nat.reduceMul, Nat.reduceSub, Int.reduceToNat, Nat.reduceLeDiff, Int.reduceNeg, Int.reduceEq, Int.reduceLT, Int.reduceLE, Int.reduceBEq, Int.reduceBNe, Int.reduceToNat, dis])
end Go.Proofs.Ytnkmkphdgebkgaa
