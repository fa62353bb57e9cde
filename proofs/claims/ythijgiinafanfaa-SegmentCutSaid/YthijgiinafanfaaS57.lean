import Derived.Test.YthijgiinafanfaaS56
set_option linter.unusedSimpArgs false
set_option linter.unusedVariables false
namespace Go.Proofs.Ythijgiinafanfaa
open Go.Vi
set_option linter.unusedSimpArgs false

def ixL (l : List (Rec × Nat)) (b e : Int) : L := match l with | [] => .ns | x :: l => .d (.l ((indexM (x :: l) b e).map mkE))
set_option maxRecDepth 8000 in
theorem index_spec (s : List UInt8) (hs : s.length ≤ 1000000) (b e : Int) (hb : -9223372036854775808 ≤ b ∧ b < 9223372036854775808) (hev : 1 ≤ e ∧ e ≤ 256) : call 12 [vs s, vi b, vi e] [] = some (vl ((indexS s b e).map mkE), []) := by
  apply enterM s12 rfl
  have hg := good_spec b hb
  unfold indexS scanS
  cases h : offN b with
  | false =>
    rw [h] at hg
    (simp (disch := first | decide | omega | (intros; exact Eq.trans rfl rfl) | (simp only [puri]; done)) only [a12, hg, vis, visL, visB, fillR, rowsAt, toDs, toD, ↓ops_cons, ↓ops_consz, fzTs, fzLs, rg, rd, o, oz, kc, kb, ks, kx, on, og, od, ogd, A.run, evI, evOpt, evs, evP, argF, V.cs, binD, fzV, fzL, fzVs, dataVs, dataLs, V.data, L.data, unD, fillL, List.take_succ_cons, List.take_zero, List.drop_succ_cons, List.drop_zero, List.cons_append, ne_eq, Nat.reduceLT, Nat.reduceBEq, ↓reduceIte, Nat.reduceEqDiff, Nat.reduceAdd, Nat.reduceMul, Nat.reduceSub, Int.reduceToNat, Nat.reduceLeDiff, Int.reduceNeg, Int.reduceEq, Int.reduceLT, Int.reduceLE, Int.reduceBEq, Int.reduceBNe, Int.reduceToNat, dis, vdr, A.kind, A.xs, optX, visM])
    simp [indexM]
  | true =>
    rw [h] at hg
    have c1 : callIso call 19 [.one (.p 2 0)] [.cells [.d (.i .i64 b)], .cells [.d (.i .i64 e)], .cells [.d (.s s), .d (.i .i64 0), .d (.i .i64 b), .d (.i .i64 0)], .cells [.ns]] = some (.one (.f 25 [4]), [.cells [.d (.i .i64 b)], .cells [.d (.i .i64 e)], .cells [.d (.s s), .d (.i .i64 0), .d (.i .i64 b), .d (.i .i64 0)], .cells [.ns], .cells [.p 2 0]]) :=
      iso_at rfl rfl rfl (records_spec _) rfl
    (simp (disch := first | decide | omega | (intros; exact Eq.trans rfl rfl) | (simp only [puri]; done)) only [a12, hg, c1, vis, visL, visB, fillR, rowsAt, toDs, toD, ↓ops_cons, ↓ops_consz, fzTs, fzLs, rg, rd, o, oz, kc, kb, ks, kx, on, og, od, ogd, A.run, evI, evOpt, evs, evP, argF, V.cs, binD, fzV, fzL, fzVs, dataVs, dataLs, V.data, L.data, unD, fillL, List.take_succ_cons, List.take_zero, List.drop_succ_cons, List.drop_zero, List.cons_append, ne_eq, Nat.reduceLT, Nat.reduceBEq, ↓reduceIte, Nat.reduceEqDiff, Nat.reduceAdd, Nat.reduceMul, Nat.reduceSub, Int.reduceToNat, Nat.reduceLeDiff, Int.reduceNeg, Int.reduceEq, Int.reduceLT, Int.reduceLE, Int.reduceBEq, Int.reduceBNe, Int.reduceToNat, dis, vdr, A.kind, A.xs, optX, visM])
    rw [M_rngS (gf := 25) (caps := [4]) (af := a25) (by rfl) s25 rfl]
    generalize hψ : roundRunU call _ _ _ _ = ψ
    (simp (disch := first | decide | omega | (intros; exact Eq.trans rfl rfl) | (simp only [puri]; done)) only [a25, vis, visL, visB, fillR, rowsAt, toDs, toD, ↓ops_cons, ↓ops_consz, fzTs, fzLs, rg, rd, o, oz, kc, kb, ks, kx, on, og, od, ogd, A.run, evI, evOpt, evs, evP, argF, V.cs, binD, fzV, fzL, fzVs, dataVs, dataLs, V.data, L.data, unD, fillL, List.take_succ_cons, List.take_zero, List.drop_succ_cons, List.drop_zero, List.cons_append, ne_eq, Nat.reduceLT, Nat.reduceBEq, ↓reduceIte, Nat.reduceEqDiff, Nat.reduceAdd, Nat.reduceMul, Nat.reduceSub, Int.reduceToNat, Nat.reduceLeDiff, Int.reduceNeg, Int.reduceEq, Int.reduceLT, Int.reduceLE, Int.reduceBEq, Int.reduceBNe, Int.reduceToNat, dis, vdr, A.kind, A.xs, optX, visY, ↓ops_consY, ↓ops_conszY])
    have hr := fun (v : V) (H : Hp) => (congrFun (congrFun hψ.symm [v]) H).trans (round_e _ _ _ _ _ [v] H rfl)
    clear hψ
    have hb2 : 0 ≤ b ∧ b ≤ 1099511627776 := by simpa [offN] using h
    refine loop_boxY (N := 82) (m := 6) (σ := Nat × Int × List (Rec × Nat)) (fun t => s.length - t.1) (fun t => t.1 ≤ s.length ∧ t.2.2.length ≤ t.1 ∧ t.2.1 = b + t.2.2.length) (fun t => [V.one (.y 5 0), V.one (.p 4 0)])
      (fun t => [.cells [.d (.i .i64 b)], .cells [.d (.i .i64 e)], .cells [.d (.s s), .d (.i .i64 t.1), .d (.i .i64 t.2.1), .d (.i .i64 0)], .cells [ixL t.2.2 b e], .cells [.p 2 0], .dead])
      (fun t => (vl ((indexM (t.2.2 ++ (placesF (s.length + 1 - t.1) s t.1 t.2.1).1) b e).map mkE), ([] : Hp))) ?_ (0, b, []) ⟨Nat.zero_le _, by simp, by simp⟩ _ _ (at_headM (by decide) (by simp only [List.map_cons, List.map_nil, vis, visL, visB, fillR, rowsAt, toDs, toD, ↓ops_cons, ↓ops_consz, fzTs, fzLs, rg, rd, o, oz, kc, kb, ks, kx, on, og, od, ogd, A.run, evI, evOpt, evs, evP, argF, V.cs, binD, fzV, fzL, fzVs, dataVs, dataLs, V.data, L.data, unD, fillL, List.take_succ_cons, List.take_zero, List.drop_succ_cons, List.drop_zero, List.cons_append, ne_eq, Nat.reduceLT, Nat.reduceBEq, ↓reduceIte, Nat.reduceEqDiff, Nat.reduceAdd, Nat.reduceMul, Nat.reduceSub, Int.reduceToNat, Nat.reduceLeDiff, Int.reduceNeg, Int.reduceEq, Int.reduceLT, Int.reduceLE, Int.reduceBEq, Int.reduceBNe, Int.reduceToNat]; exact rfl) (by rfl) (by rfl) (by rfl))
    rintro ⟨a, nx, out⟩ ⟨ha, hout, hnx⟩ R hR
    simp only at ha hout hnx
    rcases Nat.lt_or_ge a s.length with h | h
    · obtain ⟨f, hf⟩ : ∃ f, s.length + 1 - a = f + 1 := ⟨s.length - a, by omega⟩
      have hn := next_spec s a (by omega) (by omega)
      have htl := nextF_tlen s a
      obtain ⟨⟨t, n, e'⟩, hx⟩ : ∃ x, nextF s a = x := ⟨_, rfl⟩
      rw [hx] at hn htl
      by_cases he : e' = 0
      · subst he
        have hok := nextF_ok hx
        have hg := get_spec t (by simp only [] at htl; omega)
        have hst := @placesF_step s t a n f nx h hx
        have hof := @placesF_off s t a n f nx h hx
        have hbd := @placesF_bad s t a n f nx h hx
        obtain ⟨⟨r, g⟩, hq⟩ : ∃ x, getR t = x := ⟨_, rfl⟩
        rw [hq] at hg hst hof hbd
        simp only [recV] at hg hst hbd hof
        by_cases hz : g = 0
        · subst hz
          by_cases ho : r.at_ = nx
          · simp only [hf, hst rfl ho]
            subst ho
            have e3 : placesF f s n (r.at_ + 1) = placesF (s.length + 1 - n) s n (r.at_ + 1) := placesF_fuel _ _ n _ hok.2 (by omega) (by omega)
            have hll := indexM_len b e out
            have had := add_spec (indexM out b e) (by omega) b e (r.at_, (a : Int)) hb2 hev (by simp only []; omega)
            rw [← indexM_snoc out (r, a)] at had
            rcases out with _ | ⟨x, out⟩
            · simp only [List.length_nil] at hnx hout
              simp only [show indexM [] b e = [] from rfl, List.map_nil] at had
              (simp (disch := first | decide | omega | (intros; exact Eq.trans rfl rfl) | (simp only [puri]; done)) only [a25_0, hn, nextV, hg, Rec.len, Rec.tk, Rec.tkL, Rec.dat, Rec.lenL, Rec.enc, List.map_cons, List.map_nil, List.getElem?_cons_zero, ixL, List.append_nil, vis, visL, visB, fillR, rowsAt, toDs, toD, ↓ops_cons, ↓ops_consz, fzTs, fzLs, rg, rd, o, oz, kc, kb, ks, kx, on, og, od, ogd, A.run, evI, evOpt, evs, evP, argF, V.cs, binD, fzV, fzL, fzVs, dataVs, dataLs, V.data, L.data, unD, fillL, List.take_succ_cons, List.take_zero, List.drop_succ_cons, List.drop_zero, List.cons_append, ne_eq, Nat.reduceLT, Nat.reduceBEq, ↓reduceIte, Nat.reduceEqDiff, Nat.reduceAdd, Nat.reduceMul, Nat.reduceSub, Int.reduceToNat, Nat.reduceLeDiff, Int.reduceNeg, Int.reduceEq, Int.reduceLT, Int.reduceLE, Int.reduceBEq, Int.reduceBNe, Int.reduceToNat, dis, vdr, A.kind, A.xs, optX, visY, ↓ops_consY, ↓ops_conszY])
              rw [hr]
              (simp (disch := first | decide | omega | (intros; exact Eq.trans rfl rfl) | (simp only [puri]; done)) only [visY, had, vis, visL, visB, fillR, rowsAt, toDs, toD, ↓ops_cons, ↓ops_consz, fzTs, fzLs, rg, rd, o, oz, kc, kb, ks, kx, on, og, od, ogd, A.run, evI, evOpt, evs, evP, argF, V.cs, binD, fzV, fzL, fzVs, dataVs, dataLs, V.data, L.data, unD, fillL, List.take_succ_cons, List.take_zero, List.drop_succ_cons, List.drop_zero, List.cons_append, ne_eq, Nat.reduceLT, Nat.reduceBEq, ↓reduceIte, Nat.reduceEqDiff, Nat.reduceAdd, Nat.reduceMul, Nat.reduceSub, Int.reduceToNat, Nat.reduceLeDiff, Int.reduceNeg, Int.reduceEq, Int.reduceLT, Int.reduceLE, Int.reduceBEq, Int.reduceBNe, Int.reduceToNat, dis, vdr, A.kind, A.xs, optX])
              (simp (disch := first | decide | omega | (intros; exact Eq.trans rfl rfl) | (simp only [puri]; done)) only [vis, visL, visB, fillR, rowsAt, toDs, toD, ↓ops_cons, ↓ops_consz, fzTs, fzLs, rg, rd, o, oz, kc, kb, ks, kx, on, og, od, ogd, A.run, evI, evOpt, evs, evP, argF, V.cs, binD, fzV, fzL, fzVs, dataVs, dataLs, V.data, L.data, unD, fillL, List.take_succ_cons, List.take_zero, List.drop_succ_cons, List.drop_zero, List.cons_append, ne_eq, Nat.reduceLT, Nat.reduceBEq, ↓reduceIte, Nat.reduceEqDiff, Nat.reduceAdd, Nat.reduceMul, Nat.reduceSub, Int.reduceToNat, Nat.reduceLeDiff, Int.reduceNeg, Int.reduceEq, Int.reduceLT, Int.reduceLE, Int.reduceBEq, Int.reduceBNe, Int.reduceToNat, dis, vdr, A.kind, A.xs, optX, visY, ↓ops_consY, ↓ops_conszY])
              have hR' := hR (n, r.at_ + 1, [(r, a)]) (by simp only []; omega) ⟨hok.2, by simp; omega, by simp; omega⟩
              simp only [List.singleton_append, ← e3] at hR'
              exact hR' _ _ (at_headM (by decide) (by simp only [List.map_cons, List.map_nil, vis, visL, visB, fillR, rowsAt, toDs, toD, ↓ops_cons, ↓ops_consz, fzTs, fzLs, rg, rd, o, oz, kc, kb, ks, kx, on, og, od, ogd, A.run, evI, evOpt, evs, evP, argF, V.cs, binD, fzV, fzL, fzVs, dataVs, dataLs, V.data, L.data, unD, fillL, List.take_succ_cons, List.take_zero, List.drop_succ_cons, List.drop_zero, List.cons_append, ne_eq, Nat.reduceLT, Nat.reduceBEq, ↓reduceIte, Nat.reduceEqDiff, Nat.reduceAdd, Nat.reduceMul, Nat.reduceSub, Int.reduceToNat, Nat.reduceLeDiff, Int.reduceNeg, Int.reduceEq, Int.reduceLT, Int.reduceLE, Int.reduceBEq, Int.reduceBNe, Int.reduceToNat]; exact rfl) (by rfl) (by rfl) (by rfl))
            · simp only [List.length_cons] at hnx hout
              (simp (disch := first | decide | omega | (intros; exact Eq.trans rfl rfl) | (simp only [puri]; done)) only [a25_0, hn, nextV, hg, Rec.len, Rec.tk, Rec.tkL, Rec.dat, Rec.lenL, Rec.enc, List.map_cons, List.map_nil, List.getElem?_cons_zero, ixL, List.append_nil, vis, visL, visB, fillR, rowsAt, toDs, toD, ↓ops_cons, ↓ops_consz, fzTs, fzLs, rg, rd, o, oz, kc, kb, ks, kx, on, og, od, ogd, A.run, evI, evOpt, evs, evP, argF, V.cs, binD, fzV, fzL, fzVs, dataVs, dataLs, V.data, L.data, unD, fillL, List.take_succ_cons, List.take_zero, List.drop_succ_cons, List.drop_zero, List.cons_append, ne_eq, Nat.reduceLT, Nat.reduceBEq, ↓reduceIte, Nat.reduceEqDiff, Nat.reduceAdd, Nat.reduceMul, Nat.reduceSub, Int.reduceToNat, Nat.reduceLeDiff, Int.reduceNeg, Int.reduceEq, Int.reduceLT, Int.reduceLE, Int.reduceBEq, Int.reduceBNe, Int.reduceToNat, dis, vdr, A.kind, A.xs, optX, visY, ↓ops_consY, ↓ops_conszY])
              rw [hr]
              (simp (disch := first | decide | omega | (intros; exact Eq.trans rfl rfl) | (simp only [puri]; done)) only [visY, had, vis, visL, visB, fillR, rowsAt, toDs, toD, ↓ops_cons, ↓ops_consz, fzTs, fzLs, rg, rd, o, oz, kc, kb, ks, kx, on, og, od, ogd, A.run, evI, evOpt, evs, evP, argF, V.cs, binD, fzV, fzL, fzVs, dataVs, dataLs, V.data, L.data, unD, fillL, List.take_succ_cons, List.take_zero, List.drop_succ_cons, List.drop_zero, List.cons_append, ne_eq, Nat.reduceLT, Nat.reduceBEq, ↓reduceIte, Nat.reduceEqDiff, Nat.reduceAdd, Nat.reduceMul, Nat.reduceSub, Int.reduceToNat, Nat.reduceLeDiff, Int.reduceNeg, Int.reduceEq, Int.reduceLT, Int.reduceLE, Int.reduceBEq, Int.reduceBNe, Int.reduceToNat, dis, vdr, A.kind, A.xs, optX])
              (simp (disch := first | decide | omega | (intros; exact Eq.trans rfl rfl) | (simp only [puri]; done)) only [vis, visL, visB, fillR, rowsAt, toDs, toD, ↓ops_cons, ↓ops_consz, fzTs, fzLs, rg, rd, o, oz, kc, kb, ks, kx, on, og, od, ogd, A.run, evI, evOpt, evs, evP, argF, V.cs, binD, fzV, fzL, fzVs, dataVs, dataLs, V.data, L.data, unD, fillL, List.take_succ_cons, List.take_zero, List.drop_succ_cons, List.drop_zero, List.cons_append, ne_eq, Nat.reduceLT, Nat.reduceBEq, ↓reduceIte, Nat.reduceEqDiff, Nat.reduceAdd, Nat.reduceMul, Nat.reduceSub, Int.reduceToNat, Nat.reduceLeDiff, Int.reduceNeg, Int.reduceEq, Int.reduceLT, Int.reduceLE, Int.reduceBEq, Int.reduceBNe, Int.reduceToNat, dis, vdr, A.kind, A.xs, optX, visY, ↓ops_consY, ↓ops_conszY])
              have hR' := hR (n, r.at_ + 1, (x :: out) ++ [(r, a)]) (by simp only []; omega) ⟨hok.2, by simp; omega, by simp; omega⟩
              simp only [List.append_assoc, List.singleton_append, ← e3, ixL, List.cons_append] at hR'
              exact hR' _ _ (at_headM (by decide) (by simp only [List.map_cons, List.map_nil, vis, visL, visB, fillR, rowsAt, toDs, toD, ↓ops_cons, ↓ops_consz, fzTs, fzLs, rg, rd, o, oz, kc, kb, ks, kx, on, og, od, ogd, A.run, evI, evOpt, evs, evP, argF, V.cs, binD, fzV, fzL, fzVs, dataVs, dataLs, V.data, L.data, unD, fillL, List.take_succ_cons, List.take_zero, List.drop_succ_cons, List.drop_zero, List.cons_append, ne_eq, Nat.reduceLT, Nat.reduceBEq, ↓reduceIte, Nat.reduceEqDiff, Nat.reduceAdd, Nat.reduceMul, Nat.reduceSub, Int.reduceToNat, Nat.reduceLeDiff, Int.reduceNeg, Int.reduceEq, Int.reduceLT, Int.reduceLE, Int.reduceBEq, Int.reduceBNe, Int.reduceToNat]; exact rfl) (by rfl) (by rfl) (by rfl))
          · simp only [hf, hof rfl ho]
            rcases out with _ | ⟨x, out⟩
            all_goals ((simp (disch := first | decide | omega | (intros; exact Eq.trans rfl rfl) | (simp only [puri]; done)) only [a25_0, hn, nextV, hg, Rec.len, Rec.tk, Rec.tkL, Rec.dat, Rec.lenL, Rec.enc, List.map_cons, List.map_nil, List.getElem?_cons_zero, ixL, List.append_nil, ho, vis, visL, visB, fillR, rowsAt, toDs, toD, ↓ops_cons, ↓ops_consz, fzTs, fzLs, rg, rd, o, oz, kc, kb, ks, kx, on, og, od, ogd, A.run, evI, evOpt, evs, evP, argF, V.cs, binD, fzV, fzL, fzVs, dataVs, dataLs, V.data, L.data, unD, fillL, List.take_succ_cons, List.take_zero, List.drop_succ_cons, List.drop_zero, List.cons_append, ne_eq, Nat.reduceLT, Nat.reduceBEq, ↓reduceIte, Nat.reduceEqDiff, Nat.reduceAdd, Nat.reduceMul, Nat.reduceSub, Int.reduceToNat, Nat.reduceLeDiff, Int.reduceNeg, Int.reduceEq, Int.reduceLT, Int.reduceLE, Int.reduceBEq, Int.reduceBNe, Int.reduceToNat, dis, vdr, A.kind, A.xs, optX, visY, ↓ops_consY, ↓ops_conszY]))
            all_goals rw [rngK_r (q := 5) (k := 0) (by decide) rfl]
            all_goals (simp (disch := first | decide | omega | (intros; exact Eq.trans rfl rfl) | (simp only [puri]; done)) only [visY, vis, visL, visB, fillR, rowsAt, toDs, toD, ↓ops_cons, ↓ops_consz, fzTs, fzLs, rg, rd, o, oz, kc, kb, ks, kx, on, og, od, ogd, A.run, evI, evOpt, evs, evP, argF, V.cs, binD, fzV, fzL, fzVs, dataVs, dataLs, V.data, L.data, unD, fillL, List.take_succ_cons, List.take_zero, List.drop_succ_cons, List.drop_zero, List.cons_append, ne_eq, Nat.reduceLT, Nat.reduceBEq, ↓reduceIte, Nat.reduceEqDiff, Nat.reduceAdd, Nat.reduceMul, Nat.reduceSub, Int.reduceToNat, Nat.reduceLeDiff, Int.reduceNeg, Int.reduceEq, Int.reduceLT, Int.reduceLE, Int.reduceBEq, Int.reduceBNe, Int.reduceToNat, dis, vdr, A.kind, A.xs, optX, visM])
            all_goals simp [indexM]
        · simp only [hf, hbd hz]
          rcases out with _ | ⟨x, out⟩
          all_goals ((simp (disch := first | decide | omega | (intros; exact Eq.trans rfl rfl) | (simp only [puri]; done)) only [a25_0, hn, nextV, hg, Rec.len, Rec.tk, Rec.tkL, Rec.dat, Rec.lenL, Rec.enc, List.map_cons, List.map_nil, List.getElem?_cons_zero, ixL, List.append_nil, hz, vis, visL, visB, fillR, rowsAt, toDs, toD, ↓ops_cons, ↓ops_consz, fzTs, fzLs, rg, rd, o, oz, kc, kb, ks, kx, on, og, od, ogd, A.run, evI, evOpt, evs, evP, argF, V.cs, binD, fzV, fzL, fzVs, dataVs, dataLs, V.data, L.data, unD, fillL, List.take_succ_cons, List.take_zero, List.drop_succ_cons, List.drop_zero, List.cons_append, ne_eq, Nat.reduceLT, Nat.reduceBEq, ↓reduceIte, Nat.reduceEqDiff, Nat.reduceAdd, Nat.reduceMul, Nat.reduceSub, Int.reduceToNat, Nat.reduceLeDiff, Int.reduceNeg, Int.reduceEq, Int.reduceLT, Int.reduceLE, Int.reduceBEq, Int.reduceBNe, Int.reduceToNat, dis, vdr, A.kind, A.xs, optX, visY, ↓ops_consY, ↓ops_conszY]))
          all_goals rw [rngK_r (q := 5) (k := 0) (by decide) rfl]
          all_goals (simp (disch := first | decide | omega | (intros; exact Eq.trans rfl rfl) | (simp only [puri]; done)) only [visY, vis, visL, visB, fillR, rowsAt, toDs, toD, ↓ops_cons, ↓ops_consz, fzTs, fzLs, rg, rd, o, oz, kc, kb, ks, kx, on, og, od, ogd, A.run, evI, evOpt, evs, evP, argF, V.cs, binD, fzV, fzL, fzVs, dataVs, dataLs, V.data, L.data, unD, fillL, List.take_succ_cons, List.take_zero, List.drop_succ_cons, List.drop_zero, List.cons_append, ne_eq, Nat.reduceLT, Nat.reduceBEq, ↓reduceIte, Nat.reduceEqDiff, Nat.reduceAdd, Nat.reduceMul, Nat.reduceSub, Int.reduceToNat, Nat.reduceLeDiff, Int.reduceNeg, Int.reduceEq, Int.reduceLT, Int.reduceLE, Int.reduceBEq, Int.reduceBNe, Int.reduceToNat, dis, vdr, A.kind, A.xs, optX, visM])
          all_goals simp [indexM]
      · simp only [hf, placesF_stop h hx he]
        rcases out with _ | ⟨x, out⟩
        all_goals ((simp (disch := first | decide | omega | (intros; exact Eq.trans rfl rfl) | (simp only [puri]; done)) only [a25_0, hn, nextV, ixL, List.append_nil, he, vis, visL, visB, fillR, rowsAt, toDs, toD, ↓ops_cons, ↓ops_consz, fzTs, fzLs, rg, rd, o, oz, kc, kb, ks, kx, on, og, od, ogd, A.run, evI, evOpt, evs, evP, argF, V.cs, binD, fzV, fzL, fzVs, dataVs, dataLs, V.data, L.data, unD, fillL, List.take_succ_cons, List.take_zero, List.drop_succ_cons, List.drop_zero, List.cons_append, ne_eq, Nat.reduceLT, Nat.reduceBEq, ↓reduceIte, Nat.reduceEqDiff, Nat.reduceAdd, Nat.reduceMul, Nat.reduceSub, Int.reduceToNat, Nat.reduceLeDiff, Int.reduceNeg, Int.reduceEq, Int.reduceLT, Int.reduceLE, Int.reduceBEq, Int.reduceBNe, Int.reduceToNat, dis, vdr, A.kind, A.xs, optX, visY, ↓ops_consY, ↓ops_conszY]))
        all_goals rw [rngK_r (q := 5) (k := 0) (by decide) rfl]
        all_goals (simp (disch := first | decide | omega | (intros; exact Eq.trans rfl rfl) | (simp only [puri]; done)) only [visY, vis, visL, visB, fillR, rowsAt, toDs, toD, ↓ops_cons, ↓ops_consz, fzTs, fzLs, rg, rd, o, oz, kc, kb, ks, kx, on, og, od, ogd, A.run, evI, evOpt, evs, evP, argF, V.cs, binD, fzV, fzL, fzVs, dataVs, dataLs, V.data, L.data, unD, fillL, List.take_succ_cons, List.take_zero, List.drop_succ_cons, List.drop_zero, List.cons_append, ne_eq, Nat.reduceLT, Nat.reduceBEq, ↓reduceIte, Nat.reduceEqDiff, Nat.reduceAdd, Nat.reduceMul, Nat.reduceSub, Int.reduceToNat, Nat.reduceLeDiff, Int.reduceNeg, Int.reduceEq, Int.reduceLT, Int.reduceLE, Int.reduceBEq, Int.reduceBNe, Int.reduceToNat, dis, vdr, A.kind, A.xs, optX, visM])
        all_goals simp [indexM]
    · rw [placesF_end h]
      have ea : a = s.length := by omega
      rcases out with _ | ⟨x, out⟩
      all_goals ((simp (disch := first | decide | omega | (intros; exact Eq.trans rfl rfl) | (simp only [puri]; done)) only [a25_0, ixL, List.append_nil, ea, vis, visL, visB, fillR, rowsAt, toDs, toD, ↓ops_cons, ↓ops_consz, fzTs, fzLs, rg, rd, o, oz, kc, kb, ks, kx, on, og, od, ogd, A.run, evI, evOpt, evs, evP, argF, V.cs, binD, fzV, fzL, fzVs, dataVs, dataLs, V.data, L.data, unD, fillL, List.take_succ_cons, List.take_zero, List.drop_succ_cons, List.drop_zero, List.cons_append, ne_eq, Nat.reduceLT, Nat.reduceBEq, ↓reduceIte, Nat.reduceEqDiff, Nat.reduceAdd, Nat.reduceMul, Nat.reduceSub, Int.reduceToNat, Nat.reduceLeDiff, Int.reduceNeg, Int.reduceEq, Int.reduceLT, Int.reduceLE, Int.reduceBEq, Int.reduceBNe, Int.reduceToNat, dis, vdr, A.kind, A.xs, optX, visY, ↓ops_consY, ↓ops_conszY]))
      all_goals rw [rngK_n (q := 5) (k := 0) (by decide) rfl]
      all_goals (simp (disch := first | decide | omega | (intros; exact Eq.trans rfl rfl) | (simp only [puri]; done)) only [visY, vis, visL, visB, fillR, rowsAt, toDs, toD, ↓ops_cons, ↓ops_consz, fzTs, fzLs, rg, rd, o, oz, kc, kb, ks, kx, on, og, od, ogd, A.run, evI, evOpt, evs, evP, argF, V.cs, binD, fzV, fzL, fzVs, dataVs, dataLs, V.data, L.data, unD, fillL, List.take_succ_cons, List.take_zero, List.drop_succ_cons, List.drop_zero, List.cons_append, ne_eq, Nat.reduceLT, Nat.reduceBEq, ↓reduceIte, Nat.reduceEqDiff, Nat.reduceAdd, Nat.reduceMul, Nat.reduceSub, Int.reduceToNat, Nat.reduceLeDiff, Int.reduceNeg, Int.reduceEq, Int.reduceLT, Int.reduceLE, Int.reduceBEq, Int.reduceBNe, Int.reduceToNat, dis, vdr, A.kind, A.xs, optX, visM])
      all_goals simp [indexM]
end Go.Proofs.Ythijgiinafanfaa
