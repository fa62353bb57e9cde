import Derived.Test.YthijgiinafanfaaS52
set_option linter.unusedSimpArgs false
set_option linter.unusedVariables false
namespace Go.Proofs.Ythijgiinafanfaa
open Go.Vi
set_option linter.unusedSimpArgs false

def ntE (x : Rec × Nat) : List D := [.i .i64 x.2]
theorem ntE_len (x : Rec × Nat) : (ntE x).length = 1 := Eq.trans rfl rfl
theorem ntE_at (x : Rec × Nat) : (ntE x)[0]? = some (.i .i64 x.2) := Eq.trans rfl rfl
def placesV (r : List (Rec × Nat) × Nat × Int) : V := .tup [(false, [.d (.l (r.1.map fun x => x.1.enc))]), (false, [.d (.l (r.1.map ntE))]), (false, [.d (.i .i64 ((r.2.1 : Nat) : Int))]), (false, [.d (.i .i64 r.2.2)])]

set_option maxRecDepth 8000 in
theorem places_spec (s : List UInt8) (hs : s.length ≤ 1000000) (b : Int) (hb : -9223372036854775808 ≤ b ∧ b < 9223372036854775808) : call 20 [vs s, vi b] [] = some (placesV (scanS s b), []) := by
  apply enterS s20 rfl
  unfold scanS
  cases ho : offN b with
  | false =>
    by_cases c0 : b < 0
    · (simp (disch := first | decide | omega | (intros; exact Eq.trans rfl rfl) | (simp only [puri]; done)) only [a20, c0, vis, visL, visB, fillR, rowsAt, toDs, toD, ↓ops_cons, ↓ops_consz, fzTs, fzLs, rg, rd, o, oz, kc, kb, ks, kx, on, og, od, ogd, A.run, evI, evOpt, evs, evP, argF, V.cs, binD, fzV, fzL, fzVs, dataVs, dataLs, V.data, L.data, unD, fillL, List.take_succ_cons, List.take_zero, List.drop_succ_cons, List.drop_zero, List.cons_append, ne_eq, Nat.reduceLT, Nat.reduceBEq, ↓reduceIte, Nat.reduceEqDiff, Nat.reduceAdd, Nat.reduceMul, Nat.reduceSub, Int.reduceToNat, Nat.reduceLeDiff, Int.reduceNeg, Int.reduceEq, Int.reduceLT, Int.reduceLE, Int.reduceBEq, Int.reduceBNe, Int.reduceToNat, dis])
      simp [placesV]
    · have c1 : ¬ b ≤ 1099511627776 := by simpa [offN, Int.not_lt.1 c0] using ho
      (simp (disch := first | decide | omega | (intros; exact Eq.trans rfl rfl) | (simp only [puri]; done)) only [a20, c0, c1, vis, visL, visB, fillR, rowsAt, toDs, toD, ↓ops_cons, ↓ops_consz, fzTs, fzLs, rg, rd, o, oz, kc, kb, ks, kx, on, og, od, ogd, A.run, evI, evOpt, evs, evP, argF, V.cs, binD, fzV, fzL, fzVs, dataVs, dataLs, V.data, L.data, unD, fillL, List.take_succ_cons, List.take_zero, List.drop_succ_cons, List.drop_zero, List.cons_append, ne_eq, Nat.reduceLT, Nat.reduceBEq, ↓reduceIte, Nat.reduceEqDiff, Nat.reduceAdd, Nat.reduceMul, Nat.reduceSub, Int.reduceToNat, Nat.reduceLeDiff, Int.reduceNeg, Int.reduceEq, Int.reduceLT, Int.reduceLE, Int.reduceBEq, Int.reduceBNe, Int.reduceToNat, dis])
      simp [placesV]
  | true =>
    have hb2 : 0 ≤ b ∧ b ≤ 1099511627776 := by simpa [offN] using ho
    (simp (disch := first | decide | omega | (intros; exact Eq.trans rfl rfl) | (simp only [puri]; done)) only [a20, vis, visL, visB, fillR, rowsAt, toDs, toD, ↓ops_cons, ↓ops_consz, fzTs, fzLs, rg, rd, o, oz, kc, kb, ks, kx, on, og, od, ogd, A.run, evI, evOpt, evs, evP, argF, V.cs, binD, fzV, fzL, fzVs, dataVs, dataLs, V.data, L.data, unD, fillL, List.take_succ_cons, List.take_zero, List.drop_succ_cons, List.drop_zero, List.cons_append, ne_eq, Nat.reduceLT, Nat.reduceBEq, ↓reduceIte, Nat.reduceEqDiff, Nat.reduceAdd, Nat.reduceMul, Nat.reduceSub, Int.reduceToNat, Nat.reduceLeDiff, Int.reduceNeg, Int.reduceEq, Int.reduceLT, Int.reduceLE, Int.reduceBEq, Int.reduceBNe, Int.reduceToNat, dis])
    refine loop_box (σ := Nat × Int × List (Rec × Nat)) (fun t => s.length - t.1) (fun t => t.1 ≤ s.length ∧ t.2.2.length ≤ t.1 ∧ t.2.1 = b + t.2.2.length) (fun t => [vs s, vi b, .one (.sl 0 3 0 t.2.2.length), .one (.sl 1 1 0 t.2.2.length), vi t.1]) (fun t => [.arr 3 (t.2.2.map fun x => x.1.enc) 0, .arr 1 (t.2.2.map ntE) 0])
      (fun t => (placesV (t.2.2 ++ (placesF (s.length + 1 - t.1) s t.1 t.2.1).1, (placesF (s.length + 1 - t.1) s t.1 t.2.1).2), ([] : Hp))) ?_ (0, b, []) ⟨Nat.zero_le _, by simp, by simp⟩ _ _ (at_head2 (by decide) (by simp only [List.map_cons, List.map_nil, vis, visL, visB, fillR, rowsAt, toDs, toD, ↓ops_cons, ↓ops_consz, fzTs, fzLs, rg, rd, o, oz, kc, kb, ks, kx, on, og, od, ogd, A.run, evI, evOpt, evs, evP, argF, V.cs, binD, fzV, fzL, fzVs, dataVs, dataLs, V.data, L.data, unD, fillL, List.take_succ_cons, List.take_zero, List.drop_succ_cons, List.drop_zero, List.cons_append, ne_eq, Nat.reduceLT, Nat.reduceBEq, ↓reduceIte, Nat.reduceEqDiff, Nat.reduceAdd, Nat.reduceMul, Nat.reduceSub, Int.reduceToNat, Nat.reduceLeDiff, Int.reduceNeg, Int.reduceEq, Int.reduceLT, Int.reduceLE, Int.reduceBEq, Int.reduceBNe, Int.reduceToNat]; exact rfl) (by simp [idsOf, reach, place_cons, place_nil, canonH, V.ren, L.ren, Box.ren, V.refs, L.refs, Box.refs, true_and]) (by simp [idsOf, reach, place_cons, place_nil, canonH, V.ren, L.ren, Box.ren, V.refs, L.refs, Box.refs, true_and]))
    rintro ⟨a, nx, out⟩ ⟨ha, hout, hnx⟩ R hR
    simp only at ha hout hnx
    rcases Nat.lt_or_ge a s.length with h | h
    · obtain ⟨f, hf⟩ : ∃ f, s.length + 1 - a = f + 1 := ⟨s.length - a, by omega⟩
      have hn := refNext_spec s a (by omega) (by omega)
      have htl := nextF_tlen s a
      obtain ⟨⟨t, n, e⟩, hx⟩ : ∃ x, nextF s a = x := ⟨_, rfl⟩
      rw [hx] at hn htl
      by_cases he : e = 0
      · subst he
        have hok := nextF_ok hx
        have hg := refGet_spec t (by simp only [] at htl; omega)
        have hst := @placesF_step s t a n f nx h hx
        have hof := @placesF_off s t a n f nx h hx
        have hbd := @placesF_bad s t a n f nx h hx
        obtain ⟨⟨r, g⟩, hq⟩ : ∃ x, getR t = x := ⟨_, rfl⟩
        rw [hq] at hg hst hof hbd
        simp only [recV] at hg hst hof hbd
        by_cases hz : g = 0
        · subst hz
          by_cases ho : r.at_ = nx
          · simp only [hf, hst rfl ho]
            have e3 : placesF f s n (nx + 1) = placesF (s.length + 1 - n) s n (nx + 1) := placesF_fuel _ _ n _ hok.2 (by omega) (by omega)
            have hm : List.map (fun x : Rec × Nat => x.1.enc) out ++ [r.enc] = List.map (fun x => x.1.enc) (out ++ [(r, a)]) := by simp
            have hm2 : List.map ntE out ++ [[D.i IntKind.i64 a]] = List.map ntE (out ++ [(r, a)]) := by simp [ntE]
            have fd : (r.enc.map L.d)[0]? = some (.d (.i .i64 nx)) := by rw [Rec.fd0, ho]
            (simp (disch := first | decide | omega | (intros; exact Eq.trans rfl rfl) | (simp only [puri]; done)) only [a20_0, hn, nextV, hg, Rec.len, Rec.tk, Rec.tkL, Rec.dat, Rec.lenL, fd, ← hnx, vis, visL, visB, fillR, rowsAt, toDs, toD, ↓ops_cons, ↓ops_consz, fzTs, fzLs, rg, rd, o, oz, kc, kb, ks, kx, on, og, od, ogd, A.run, evI, evOpt, evs, evP, argF, V.cs, binD, fzV, fzL, fzVs, dataVs, dataLs, V.data, L.data, unD, fillL, List.take_succ_cons, List.take_zero, List.drop_succ_cons, List.drop_zero, List.cons_append, ne_eq, Nat.reduceLT, Nat.reduceBEq, ↓reduceIte, Nat.reduceEqDiff, Nat.reduceAdd, Nat.reduceMul, Nat.reduceSub, Int.reduceToNat, Nat.reduceLeDiff, Int.reduceNeg, Int.reduceEq, Int.reduceLT, Int.reduceLE, Int.reduceBEq, Int.reduceBNe, Int.reduceToNat, dis])
            have hR' := hR (n, nx + 1, out ++ [(r, a)]) (by simp only []; omega) ⟨hok.2, by simp; omega, by simp; omega⟩
            simp only [List.append_assoc, List.singleton_append, List.length_append, List.length_cons, List.length_nil, Nat.zero_add, Int.natCast_add, Int.natCast_one, ← Int.add_assoc, ← e3] at hR'
            exact hR' _ _ (at_head2 (by decide) (by simp only [List.map_cons, List.map_nil, vis, visL, visB, fillR, rowsAt, toDs, toD, ↓ops_cons, ↓ops_consz, fzTs, fzLs, rg, rd, o, oz, kc, kb, ks, kx, on, og, od, ogd, A.run, evI, evOpt, evs, evP, argF, V.cs, binD, fzV, fzL, fzVs, dataVs, dataLs, V.data, L.data, unD, fillL, List.take_succ_cons, List.take_zero, List.drop_succ_cons, List.drop_zero, List.cons_append, ne_eq, Nat.reduceLT, Nat.reduceBEq, ↓reduceIte, Nat.reduceEqDiff, Nat.reduceAdd, Nat.reduceMul, Nat.reduceSub, Int.reduceToNat, Nat.reduceLeDiff, Int.reduceNeg, Int.reduceEq, Int.reduceLT, Int.reduceLE, Int.reduceBEq, Int.reduceBNe, Int.reduceToNat]; exact rfl) (by simp [idsOf, reach, place_cons, place_nil, canonH, V.ren, L.ren, Box.ren, V.refs, L.refs, Box.refs, Rec.rfs, Rec.rn, ntE]) (by simp [idsOf, reach, place_cons, place_nil, canonH, V.ren, L.ren, Box.ren, V.refs, L.refs, Box.refs, Rec.rfs, Rec.rn, ntE]))
          · simp only [hf, hof rfl ho]
            (simp (disch := first | decide | omega | (intros; exact Eq.trans rfl rfl) | (simp only [puri]; done)) only [a20_0, hn, nextV, hg, placesV, Rec.len, Rec.tk, Rec.tkL, Rec.dat, Rec.lenL, Rec.fd0, ho, ← hnx, vis, visL, visB, fillR, rowsAt, toDs, toD, ↓ops_cons, ↓ops_consz, fzTs, fzLs, rg, rd, o, oz, kc, kb, ks, kx, on, og, od, ogd, A.run, evI, evOpt, evs, evP, argF, V.cs, binD, fzV, fzL, fzVs, dataVs, dataLs, V.data, L.data, unD, fillL, List.take_succ_cons, List.take_zero, List.drop_succ_cons, List.drop_zero, List.cons_append, ne_eq, Nat.reduceLT, Nat.reduceBEq, ↓reduceIte, Nat.reduceEqDiff, Nat.reduceAdd, Nat.reduceMul, Nat.reduceSub, Int.reduceToNat, Nat.reduceLeDiff, Int.reduceNeg, Int.reduceEq, Int.reduceLT, Int.reduceLE, Int.reduceBEq, Int.reduceBNe, Int.reduceToNat, dis])
            try simp
        · simp only [hf, hbd hz]
          (simp (disch := first | decide | omega | (intros; exact Eq.trans rfl rfl) | (simp only [puri]; done)) only [a20_0, hn, nextV, hg, placesV, Rec.len, Rec.tk, Rec.tkL, Rec.dat, Rec.lenL, vis, visL, visB, fillR, rowsAt, toDs, toD, ↓ops_cons, ↓ops_consz, fzTs, fzLs, rg, rd, o, oz, kc, kb, ks, kx, on, og, od, ogd, A.run, evI, evOpt, evs, evP, argF, V.cs, binD, fzV, fzL, fzVs, dataVs, dataLs, V.data, L.data, unD, fillL, List.take_succ_cons, List.take_zero, List.drop_succ_cons, List.drop_zero, List.cons_append, ne_eq, Nat.reduceLT, Nat.reduceBEq, ↓reduceIte, Nat.reduceEqDiff, Nat.reduceAdd, Nat.reduceMul, Nat.reduceSub, Int.reduceToNat, Nat.reduceLeDiff, Int.reduceNeg, Int.reduceEq, Int.reduceLT, Int.reduceLE, Int.reduceBEq, Int.reduceBNe, Int.reduceToNat, dis])
          try simp
      · simp only [hf, placesF_stop h hx he]
        (simp (disch := first | decide | omega | (intros; exact Eq.trans rfl rfl) | (simp only [puri]; done)) only [a20_0, hn, nextV, placesV, vis, visL, visB, fillR, rowsAt, toDs, toD, ↓ops_cons, ↓ops_consz, fzTs, fzLs, rg, rd, o, oz, kc, kb, ks, kx, on, og, od, ogd, A.run, evI, evOpt, evs, evP, argF, V.cs, binD, fzV, fzL, fzVs, dataVs, dataLs, V.data, L.data, unD, fillL, List.take_succ_cons, List.take_zero, List.drop_succ_cons, List.drop_zero, List.cons_append, ne_eq, Nat.reduceLT, Nat.reduceBEq, ↓reduceIte, Nat.reduceEqDiff, Nat.reduceAdd, Nat.reduceMul, Nat.reduceSub, Int.reduceToNat, Nat.reduceLeDiff, Int.reduceNeg, Int.reduceEq, Int.reduceLT, Int.reduceLE, Int.reduceBEq, Int.reduceBNe, Int.reduceToNat, dis])
        try simp
    · have hal : a = s.length := by omega
      subst hal
      simp only [placesF_end (Nat.le_refl _)]
      (simp (disch := first | decide | omega | (intros; exact Eq.trans rfl rfl) | (simp only [puri]; done)) only [a20_0, placesV, vis, visL, visB, fillR, rowsAt, toDs, toD, ↓ops_cons, ↓ops_consz, fzTs, fzLs, rg, rd, o, oz, kc, kb, ks, kx, on, og, od, ogd, A.run, evI, evOpt, evs, evP, argF, V.cs, binD, fzV, fzL, fzVs, dataVs, dataLs, V.data, L.data, unD, fillL, List.take_succ_cons, List.take_zero, List.drop_succ_cons, List.drop_zero, List.cons_append, ne_eq, Nat.reduceLT, Nat.reduceBEq, ↓reduceIte, Nat.reduceEqDiff, Nat.reduceAdd, Nat.reduceMul, Nat.reduceSub, Int.reduceToNat, Nat.reduceLeDiff, Int.reduceNeg, Int.reduceEq, Int.reduceLT, Int.reduceLE, Int.reduceBEq, Int.reduceBNe, Int.reduceToNat, dis])
      try simp
end Go.Proofs.Ythijgiinafanfaa
