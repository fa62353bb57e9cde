import Derived.Test.YthijgiinafanfaaS62
set_option linter.unusedSimpArgs false
set_option linter.unusedVariables false
namespace Go.Proofs.Ythijgiinafanfaa
open Go.Vi
set_option linter.unusedSimpArgs false

theorem segReads_law1 (s : List UInt8) (hs : s.length ≤ 9223372036854775807) (b off : Int) (hb : -9223372036854775808 ≤ b ∧ b < 9223372036854775808) (e : Nat) (he : e < 256) :
    call 4 [.agg [.d (.s s), .d (.i .i64 b), .d (.i .i64 off), .d (.i .u8 ((e : Nat) : Int))]] [] = some (vb true, []) := by
  apply enterS s4 rfl
  have haw := segAwake_spec
  by_cases c : s.length ≤ 2000
  · have p1 := segRefRead s (by omega) b off hb
    have p2 := refIndex_spec s (by omega) b (1 + e) hb (by omega)
    have p3 := readIdx_spec s (by omega) b (1 + e) off (by omega)
    unfold readL at p1 p3
    cases hq : ((scanS s b).1.map (·.1)).find? (fun r => decide (r.at_ = off)) with
    | none =>
      rw [hq] at p1 p3
      simp only at p1 p3
      have hsq : scEqs [0, 0, 2] [L.d (.i .i64 0), .d (.i .i64 0), .d (.s [])] [.d (.i .i64 0), .d (.i .i64 0), .d (.s [])] = some true := by rfl
      (simp (disch := first | decide | omega | (intros; exact Eq.trans rfl rfl) | (simp only [puri]; done)) only [a4, haw, p1, p2, p3, hsq, vis, visL, visB, fillR, rowsAt, toDs, toD, ↓ops_cons, ↓ops_consz, fzTs, fzLs, rg, rd, o, oz, kc, kb, ks, kx, on, og, od, ogd, A.run, evI, evOpt, evs, evP, argF, V.cs, binD, fzV, fzL, fzVs, dataVs, dataLs, V.data, L.data, unD, fillL, List.take_succ_cons, List.take_zero, List.drop_succ_cons, List.drop_zero, List.cons_append, ne_eq, Nat.reduceLT, Nat.reduceBEq, ↓reduceIte, Nat.reduceEqDiff, Nat.reduceAdd, Nat.reduceMul, Nat.reduceSub, Int.reduceToNat, Nat.reduceLeDiff, Int.reduceNeg, Int.reduceEq, Int.reduceLT, Int.reduceLE, Int.reduceBEq, Int.reduceBNe, Int.reduceToNat, dis])
      try simp [trim]
    | some r =>
      rw [hq] at p1 p3
      simp only [Rec.enc, List.map_cons, List.map_nil] at p1 p3
      have hsq : scEqs [0, 0, 2] [L.d (.i .i64 r.at_), .d (.i .i64 r.ti), .d (.s r.da)] [.d (.i .i64 r.at_), .d (.i .i64 r.ti), .d (.s r.da)] = some true := by simp [scEqs, scEq]
      (simp (disch := first | decide | omega | (intros; exact Eq.trans rfl rfl) | (simp only [puri]; done)) only [a4, haw, p1, p2, p3, hsq, vis, visL, visB, fillR, rowsAt, toDs, toD, ↓ops_cons, ↓ops_consz, fzTs, fzLs, rg, rd, o, oz, kc, kb, ks, kx, on, og, od, ogd, A.run, evI, evOpt, evs, evP, argF, V.cs, binD, fzV, fzL, fzVs, dataVs, dataLs, V.data, L.data, unD, fillL, List.take_succ_cons, List.take_zero, List.drop_succ_cons, List.drop_zero, List.cons_append, ne_eq, Nat.reduceLT, Nat.reduceBEq, ↓reduceIte, Nat.reduceEqDiff, Nat.reduceAdd, Nat.reduceMul, Nat.reduceSub, Int.reduceToNat, Nat.reduceLeDiff, Int.reduceNeg, Int.reduceEq, Int.reduceLT, Int.reduceLE, Int.reduceBEq, Int.reduceBNe, Int.reduceToNat, dis])
      try simp [trim]
  · (simp (disch := first | decide | omega | (intros; exact Eq.trans rfl rfl) | (simp only [puri]; done)) only [a4, haw, vis, visL, visB, fillR, rowsAt, toDs, toD, ↓ops_cons, ↓ops_consz, fzTs, fzLs, rg, rd, o, oz, kc, kb, ks, kx, on, og, od, ogd, A.run, evI, evOpt, evs, evP, argF, V.cs, binD, fzV, fzL, fzVs, dataVs, dataLs, V.data, L.data, unD, fillL, List.take_succ_cons, List.take_zero, List.drop_succ_cons, List.drop_zero, List.cons_append, ne_eq, Nat.reduceLT, Nat.reduceBEq, ↓reduceIte, Nat.reduceEqDiff, Nat.reduceAdd, Nat.reduceMul, Nat.reduceSub, Int.reduceToNat, Nat.reduceLeDiff, Int.reduceNeg, Int.reduceEq, Int.reduceLT, Int.reduceLE, Int.reduceBEq, Int.reduceBNe, Int.reduceToNat, dis])
    try simp [trim]

set_option maxRecDepth 8000 in
theorem segFinds_law1 (b : Nat) (hb : b < 65536) (ds : List (List UInt8)) (hl : ds.length ≤ 9223372036854775807) (hs : ∀ d ∈ ds, d.length ≤ 9223372036854775807) (e : Nat) (he : e < 256) :
    call 6 [vk .u16 ((b : Nat) : Int), vl (ds.map encS), vk .u8 ((e : Nat) : Int)] [] = some (vb true, []) := by
  apply enterS s6 rfl
  have haw := segAwake_spec
  have hr := segRow_spec b (by omega) ds hl hs
  unfold segRowV at hr
  by_cases c : ds.length ≤ 20 ∧ okS ds = true
  · rw [if_pos c] at hr
    have hw := recs_ok (b := (b : Int)) (by omega) c
    have hn := recsF_num (b : Int) ds
    obtain ⟨l, hl2⟩ : ∃ l, l = recsF (b : Int) ds := ⟨_, rfl⟩
    rw [← hl2] at hr hw hn
    have hll : l.length = ds.length := by rw [hl2, recsF_len]
    have hle := rowS_le hw
    have hob : offN (b : Int) = true := by simp [offN]; omega
    have hsr := (scan_row l b hob hw hn).1
    have p2 := index_spec (rowS l) (by omega) b (1 + e) (by omega) (by omega)
    obtain ⟨ms, hms⟩ : ∃ ms, ms = indexS (rowS l) b (1 + e) := ⟨_, rfl⟩
    rw [← hms] at p2
    (simp (disch := first | decide | omega | (intros; exact Eq.trans rfl rfl) | (simp only [puri]; done)) only [a6, hr, p2, vis, visL, visB, fillR, rowsAt, toDs, toD, ↓ops_cons, ↓ops_consz, fzTs, fzLs, rg, rd, o, oz, kc, kb, ks, kx, on, og, od, ogd, A.run, evI, evOpt, evs, evP, argF, V.cs, binD, fzV, fzL, fzVs, dataVs, dataLs, V.data, L.data, unD, fillL, List.take_succ_cons, List.take_zero, List.drop_succ_cons, List.drop_zero, List.cons_append, ne_eq, Nat.reduceLT, Nat.reduceBEq, ↓reduceIte, Nat.reduceEqDiff, Nat.reduceAdd, Nat.reduceMul, Nat.reduceSub, Int.reduceToNat, Nat.reduceLeDiff, Int.reduceNeg, Int.reduceEq, Int.reduceLT, Int.reduceLE, Int.reduceBEq, Int.reduceBNe, Int.reduceToNat, dis])
    have hsq0 : scEqs [0, 0, 2] [L.d (.i .i64 0), .d (.i .i64 0), .d (.s [])] [.d (.i .i64 0), .d (.i .i64 0), .d (.s [])] = some true := by rfl
    refine loop_box (σ := Nat) (fun j => ds.length + 2 - j) (fun j => j ≤ ds.length + 2) (fun j => [vk .u16 b, vl (ds.map encS), vs (rowS l), vl (ms.map mkE), vi ((j : Int) - 1)]) (fun _ => []) (fun _ => (vb true, ([] : Hp))) ?_ 0 (Nat.zero_le _) _ _ ?_
    rotate_left
    · exact (at_head2 (by decide) (by simp only [List.map_cons, List.map_nil, vis, visL, visB, fillR, rowsAt, toDs, toD, ↓ops_cons, ↓ops_consz, fzTs, fzLs, rg, rd, o, oz, kc, kb, ks, kx, on, og, od, ogd, A.run, evI, evOpt, evs, evP, argF, V.cs, binD, fzV, fzL, fzVs, dataVs, dataLs, V.data, L.data, unD, fillL, List.take_succ_cons, List.take_zero, List.drop_succ_cons, List.drop_zero, List.cons_append, ne_eq, Nat.reduceLT, Nat.reduceBEq, ↓reduceIte, Nat.reduceEqDiff, Nat.reduceAdd, Nat.reduceMul, Nat.reduceSub, Int.reduceToNat, Nat.reduceLeDiff, Int.reduceNeg, Int.reduceEq, Int.reduceLT, Int.reduceLE, Int.reduceBEq, Int.reduceBNe, Int.reduceToNat]; exact rfl) (by simp [idsOf, reach, place_cons, place_nil, canonH, V.ren, L.ren, Box.ren, V.refs, L.refs, Box.refs, true_and]) (by simp [idsOf, reach, place_cons, place_nil, canonH, V.ren, L.ren, Box.ren, V.refs, L.refs, Box.refs, true_and]))
    intro j hj R hR
    by_cases c0 : j = 0
    · subst c0
      have p3 := readIdx_spec (rowS l) (by omega) b (1 + e) ((b : Int) + -1) (by omega)
      rw [hsr, ← hms] at p3
      have hf : l.find? (fun r => decide (r.at_ = (b : Int) + -1)) = none := by
        rw [List.find?_eq_none]
        intro r hr
        obtain ⟨k, hk, rfl⟩ := List.getElem_of_mem hr
        rw [hn k hk]; simp only [decide_eq_true_eq]; omega
      unfold readL at p3
      rw [hf] at p3
      simp only at p3
      have hz : ((0 : Nat) : Int) - 1 = -1 := rfl
      simp only [hz]
      (simp (disch := first | decide | omega | (intros; exact Eq.trans rfl rfl) | (simp only [puri]; done)) only [a6_0, p3, hsq0, vis, visL, visB, fillR, rowsAt, toDs, toD, ↓ops_cons, ↓ops_consz, fzTs, fzLs, rg, rd, o, oz, kc, kb, ks, kx, on, og, od, ogd, A.run, evI, evOpt, evs, evP, argF, V.cs, binD, fzV, fzL, fzVs, dataVs, dataLs, V.data, L.data, unD, fillL, List.take_succ_cons, List.take_zero, List.drop_succ_cons, List.drop_zero, List.cons_append, ne_eq, Nat.reduceLT, Nat.reduceBEq, ↓reduceIte, Nat.reduceEqDiff, Nat.reduceAdd, Nat.reduceMul, Nat.reduceSub, Int.reduceToNat, Nat.reduceLeDiff, Int.reduceNeg, Int.reduceEq, Int.reduceLT, Int.reduceLE, Int.reduceBEq, Int.reduceBNe, Int.reduceToNat, dis])
      exact hR 1 (by omega) (by omega) _ _ (at_head2 (by decide) (by simp only [List.map_cons, List.map_nil, vis, visL, visB, fillR, rowsAt, toDs, toD, ↓ops_cons, ↓ops_consz, fzTs, fzLs, rg, rd, o, oz, kc, kb, ks, kx, on, og, od, ogd, A.run, evI, evOpt, evs, evP, argF, V.cs, binD, fzV, fzL, fzVs, dataVs, dataLs, V.data, L.data, unD, fillL, List.take_succ_cons, List.take_zero, List.drop_succ_cons, List.drop_zero, List.cons_append, ne_eq, Nat.reduceLT, Nat.reduceBEq, ↓reduceIte, Nat.reduceEqDiff, Nat.reduceAdd, Nat.reduceMul, Nat.reduceSub, Int.reduceToNat, Nat.reduceLeDiff, Int.reduceNeg, Int.reduceEq, Int.reduceLT, Int.reduceLE, Int.reduceBEq, Int.reduceBNe, Int.reduceToNat]; exact rfl) (by simp [idsOf, reach, place_cons, place_nil, canonH, V.ren, L.ren, Box.ren, V.refs, L.refs, Box.refs, true_and]) (by simp [idsOf, reach, place_cons, place_nil, canonH, V.ren, L.ren, Box.ren, V.refs, L.refs, Box.refs, true_and]))
    · obtain ⟨k, rfl⟩ : ∃ k, j = k + 1 := ⟨j - 1, by omega⟩
      have hz : ((k + 1 : Nat) : Int) - 1 = (k : Int) := by omega
      have hz2 : ((k + 1 + 1 : Nat) : Int) - 1 = (k : Int) + 1 := by omega
      simp only [hz]
      rcases Nat.lt_or_ge k ds.length with h | h
      · have hkl : k < l.length := by omega
        have p3 := readIdx_spec (rowS l) (by omega) b (1 + e) ((b : Int) + k) (by omega)
        rw [hsr, ← hms] at p3
        have hlk : l[k] = ⟨(b : Int) + k, k, ds[k]⟩ := by subst hl2; rw [recsF_get]
        have hf : l.find? (fun r => decide (r.at_ = (b : Int) + k)) = some l[k] := by
          rw [List.find?_eq_some_iff_getElem]
          refine ⟨by rw [hn k hkl]; simp, k, hkl, rfl, ?_⟩
          intro i hi
          rw [hn i (by omega)]; simp; omega
        unfold readL at p3
        rw [hf, hlk] at p3
        simp only [Rec.enc, List.map_cons, List.map_nil] at p3
        have hsq : scEqs [0, 0, 2] [L.d (.i .i64 ((b : Int) + k)), .d (.i .i64 k), .d (.s ds[k])] [.d (.i .i64 ((b : Int) + k)), .d (.i .i64 k), .d (.s ds[k])] = some true := by simp [scEqs, scEq]
        have hne : ((k : Int) = ds.length) = False := by simp; omega
        (simp (disch := first | decide | omega | (intros; exact Eq.trans rfl rfl) | (simp only [puri]; done)) only [a6_0, p3, hsq, hne, encS_len, encS_at, vis, visL, visB, fillR, rowsAt, toDs, toD, ↓ops_cons, ↓ops_consz, fzTs, fzLs, rg, rd, o, oz, kc, kb, ks, kx, on, og, od, ogd, A.run, evI, evOpt, evs, evP, argF, V.cs, binD, fzV, fzL, fzVs, dataVs, dataLs, V.data, L.data, unD, fillL, List.take_succ_cons, List.take_zero, List.drop_succ_cons, List.drop_zero, List.cons_append, ne_eq, Nat.reduceLT, Nat.reduceBEq, ↓reduceIte, Nat.reduceEqDiff, Nat.reduceAdd, Nat.reduceMul, Nat.reduceSub, Int.reduceToNat, Nat.reduceLeDiff, Int.reduceNeg, Int.reduceEq, Int.reduceLT, Int.reduceLE, Int.reduceBEq, Int.reduceBNe, Int.reduceToNat, dis])
        exact hR (k + 1 + 1) (by omega) (by omega) _ _ (at_head2 (by decide) (by simp only [List.map_cons, List.map_nil, vis, visL, visB, fillR, rowsAt, toDs, toD, ↓ops_cons, ↓ops_consz, fzTs, fzLs, rg, rd, o, oz, kc, kb, ks, kx, on, og, od, ogd, A.run, evI, evOpt, evs, evP, argF, V.cs, binD, fzV, fzL, fzVs, dataVs, dataLs, V.data, L.data, unD, fillL, List.take_succ_cons, List.take_zero, List.drop_succ_cons, List.drop_zero, List.cons_append, ne_eq, Nat.reduceLT, Nat.reduceBEq, ↓reduceIte, Nat.reduceEqDiff, Nat.reduceAdd, Nat.reduceMul, Nat.reduceSub, Int.reduceToNat, Nat.reduceLeDiff, Int.reduceNeg, Int.reduceEq, Int.reduceLT, Int.reduceLE, Int.reduceBEq, Int.reduceBNe, Int.reduceToNat]; exact rfl) (by simp [idsOf, reach, place_cons, place_nil, canonH, V.ren, L.ren, Box.ren, V.refs, L.refs, Box.refs, hz2]) (by simp [idsOf, reach, place_cons, place_nil, canonH, V.ren, L.ren, Box.ren, V.refs, L.refs, Box.refs, hz2]))
      · by_cases h2 : k = ds.length
        · have p3 := readIdx_spec (rowS l) (by omega) b (1 + e) ((b : Int) + k) (by omega)
          rw [hsr, ← hms] at p3
          have hf : l.find? (fun r => decide (r.at_ = (b : Int) + k)) = none := by
            rw [List.find?_eq_none]
            intro r hr
            obtain ⟨i, hi, rfl⟩ := List.getElem_of_mem hr
            rw [hn i hi]; simp only [decide_eq_true_eq]; omega
          unfold readL at p3
          rw [hf] at p3
          simp only at p3
          subst h2
          (simp (disch := first | decide | omega | (intros; exact Eq.trans rfl rfl) | (simp only [puri]; done)) only [a6_0, p3, hsq0, vis, visL, visB, fillR, rowsAt, toDs, toD, ↓ops_cons, ↓ops_consz, fzTs, fzLs, rg, rd, o, oz, kc, kb, ks, kx, on, og, od, ogd, A.run, evI, evOpt, evs, evP, argF, V.cs, binD, fzV, fzL, fzVs, dataVs, dataLs, V.data, L.data, unD, fillL, List.take_succ_cons, List.take_zero, List.drop_succ_cons, List.drop_zero, List.cons_append, ne_eq, Nat.reduceLT, Nat.reduceBEq, ↓reduceIte, Nat.reduceEqDiff, Nat.reduceAdd, Nat.reduceMul, Nat.reduceSub, Int.reduceToNat, Nat.reduceLeDiff, Int.reduceNeg, Int.reduceEq, Int.reduceLT, Int.reduceLE, Int.reduceBEq, Int.reduceBNe, Int.reduceToNat, dis])
          exact hR (ds.length + 1 + 1) (by omega) (by omega) _ _ (at_head2 (by decide) (by simp only [List.map_cons, List.map_nil, vis, visL, visB, fillR, rowsAt, toDs, toD, ↓ops_cons, ↓ops_consz, fzTs, fzLs, rg, rd, o, oz, kc, kb, ks, kx, on, og, od, ogd, A.run, evI, evOpt, evs, evP, argF, V.cs, binD, fzV, fzL, fzVs, dataVs, dataLs, V.data, L.data, unD, fillL, List.take_succ_cons, List.take_zero, List.drop_succ_cons, List.drop_zero, List.cons_append, ne_eq, Nat.reduceLT, Nat.reduceBEq, ↓reduceIte, Nat.reduceEqDiff, Nat.reduceAdd, Nat.reduceMul, Nat.reduceSub, Int.reduceToNat, Nat.reduceLeDiff, Int.reduceNeg, Int.reduceEq, Int.reduceLT, Int.reduceLE, Int.reduceBEq, Int.reduceBNe, Int.reduceToNat]; exact rfl) (by simp [idsOf, reach, place_cons, place_nil, canonH, V.ren, L.ren, Box.ren, V.refs, L.refs, Box.refs, hz2]) (by simp [idsOf, reach, place_cons, place_nil, canonH, V.ren, L.ren, Box.ren, V.refs, L.refs, Box.refs, hz2]))
        · (simp (disch := first | decide | omega | (intros; exact Eq.trans rfl rfl) | (simp only [puri]; done)) only [a6_0, haw, vis, visL, visB, fillR, rowsAt, toDs, toD, ↓ops_cons, ↓ops_consz, fzTs, fzLs, rg, rd, o, oz, kc, kb, ks, kx, on, og, od, ogd, A.run, evI, evOpt, evs, evP, argF, V.cs, binD, fzV, fzL, fzVs, dataVs, dataLs, V.data, L.data, unD, fillL, List.take_succ_cons, List.take_zero, List.drop_succ_cons, List.drop_zero, List.cons_append, ne_eq, Nat.reduceLT, Nat.reduceBEq, ↓reduceIte, Nat.reduceEqDiff, Nat.reduceAdd, Nat.reduceMul, Nat.reduceSub, Int.reduceToNat, Nat.reduceLeDiff, Int.reduceNeg, Int.reduceEq, Int.reduceLT, Int.reduceLE, Int.reduceBEq, Int.reduceBNe, Int.reduceToNat, dis])
          try simp [trim]
  · rw [if_neg c] at hr
    (simp (disch := first | decide | omega | (intros; exact Eq.trans rfl rfl) | (simp only [puri]; done)) only [a6, hr, haw, vis, visL, visB, fillR, rowsAt, toDs, toD, ↓ops_cons, ↓ops_consz, fzTs, fzLs, rg, rd, o, oz, kc, kb, ks, kx, on, og, od, ogd, A.run, evI, evOpt, evs, evP, argF, V.cs, binD, fzV, fzL, fzVs, dataVs, dataLs, V.data, L.data, unD, fillL, List.take_succ_cons, List.take_zero, List.drop_succ_cons, List.drop_zero, List.cons_append, ne_eq, Nat.reduceLT, Nat.reduceBEq, ↓reduceIte, Nat.reduceEqDiff, Nat.reduceAdd, Nat.reduceMul, Nat.reduceSub, Int.reduceToNat, Nat.reduceLeDiff, Int.reduceNeg, Int.reduceEq, Int.reduceLT, Int.reduceLE, Int.reduceBEq, Int.reduceBNe, Int.reduceToNat, dis])
end Go.Proofs.Ythijgiinafanfaa
