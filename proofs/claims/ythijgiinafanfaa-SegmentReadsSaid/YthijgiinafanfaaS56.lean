import Derived.Test.YthijgiinafanfaaS55
set_option linter.unusedSimpArgs false
set_option linter.unusedVariables false
namespace Go.Proofs.Ythijgiinafanfaa
open Go.Vi
set_option linter.unusedSimpArgs false

set_option maxRecDepth 8000 in
theorem sameM_spec (a : List Mk) (hq : a.length ≤ 1000000) : call 11 [vl (a.map mkE), vl (a.map mkE)] [] = some (vb true, []) := by
  apply enterS s11 rfl
  (simp (disch := first | decide | omega | (intros; exact Eq.trans rfl rfl) | (simp only [puri]; done)) only [a11, vis, visL, visB, fillR, rowsAt, toDs, toD, ↓ops_cons, ↓ops_consz, fzTs, fzLs, rg, rd, o, oz, kc, kb, ks, kx, on, og, od, ogd, A.run, evI, evOpt, evs, evP, argF, V.cs, binD, fzV, fzL, fzVs, dataVs, dataLs, V.data, L.data, unD, fillL, List.take_succ_cons, List.take_zero, List.drop_succ_cons, List.drop_zero, List.cons_append, ne_eq, Nat.reduceLT, Nat.reduceBEq, ↓reduceIte, Nat.reduceEqDiff, Nat.reduceAdd, Nat.reduceMul, Nat.reduceSub, Int.reduceToNat, Nat.reduceLeDiff, Int.reduceNeg, Int.reduceEq, Int.reduceLT, Int.reduceLE, Int.reduceBEq, Int.reduceBNe, Int.reduceToNat, dis])
  refine loop_data (σ := Nat) (fun k => a.length - k) (fun k => k ≤ a.length) (fun k => [vl (a.map mkE), vl (a.map mkE), vi k]) (fun k => (vb true, [])) (fun _ => by simp only [vis, visL, visB, fillR, rowsAt, toDs, toD, ↓ops_cons, ↓ops_consz, fzTs, fzLs, rg, rd, o, oz, kc, kb, ks, kx, on, og, od, ogd, A.run, evI, evOpt, evs, evP, argF, V.cs, binD, fzV, fzL, fzVs, dataVs, dataLs, V.data, L.data, unD, fillL, List.take_succ_cons, List.take_zero, List.drop_succ_cons, List.drop_zero, List.cons_append, ne_eq, Nat.reduceLT, Nat.reduceBEq, ↓reduceIte, Nat.reduceEqDiff, Nat.reduceAdd, Nat.reduceMul, Nat.reduceSub, Int.reduceToNat, Nat.reduceLeDiff, Int.reduceNeg, Int.reduceEq, Int.reduceLT, Int.reduceLE, Int.reduceBEq, Int.reduceBNe, Int.reduceToNat]) ?_ 0 (Nat.zero_le _) _ (by simp [vis, visL, visB, fillR, rowsAt, toDs, toD, ↓ops_cons, ↓ops_consz, fzTs, fzLs, rg, rd, o, oz, kc, kb, ks, kx, on, og, od, ogd, A.run, evI, evOpt, evs, evP, argF, V.cs, binD, fzV, fzL, fzVs, dataVs, dataLs, V.data, L.data, unD, fillL, List.take_succ_cons, List.take_zero, List.drop_succ_cons, List.drop_zero, List.cons_append, ne_eq, Nat.reduceLT, Nat.reduceBEq, ↓reduceIte, Nat.reduceEqDiff, Nat.reduceAdd, Nat.reduceMul, Nat.reduceSub, Int.reduceToNat, Nat.reduceLeDiff, Int.reduceNeg, Int.reduceEq, Int.reduceLT, Int.reduceLE, Int.reduceBEq, Int.reduceBNe, Int.reduceToNat])
  rintro k hk R hR
  rcases Nat.lt_or_ge k a.length with h | h
  · have g1 : (a.map mkE)[k]? = some (mkE a[k]) := by simp [h]
    have hq2 : scEqs [0, 0] [L.d (D.i IntKind.i64 a[k].1), L.d (D.i IntKind.i64 a[k].2)] [L.d (D.i IntKind.i64 a[k].1), L.d (D.i IntKind.i64 a[k].2)] = some true := by simp [scEqs, scEq]
    (simp (disch := first | decide | omega | (intros; exact Eq.trans rfl rfl) | (simp only [puri]; done)) only [a11_0, g1, mkE, List.map_cons, List.map_nil, hq2, vis, visL, visB, fillR, rowsAt, toDs, toD, ↓ops_cons, ↓ops_consz, fzTs, fzLs, rg, rd, o, oz, kc, kb, ks, kx, on, og, od, ogd, A.run, evI, evOpt, evs, evP, argF, V.cs, binD, fzV, fzL, fzVs, dataVs, dataLs, V.data, L.data, unD, fillL, List.take_succ_cons, List.take_zero, List.drop_succ_cons, List.drop_zero, List.cons_append, ne_eq, Nat.reduceLT, Nat.reduceBEq, ↓reduceIte, Nat.reduceEqDiff, Nat.reduceAdd, Nat.reduceMul, Nat.reduceSub, Int.reduceToNat, Nat.reduceLeDiff, Int.reduceNeg, Int.reduceEq, Int.reduceLT, Int.reduceLE, Int.reduceBEq, Int.reduceBNe, Int.reduceToNat, dis])
    exact hR (k + 1) (by first | omega | (simp only []; omega)) (by first | omega | (simp only []; omega)) _ (by simp [vis, visL, visB, fillR, rowsAt, toDs, toD, ↓ops_cons, ↓ops_consz, fzTs, fzLs, rg, rd, o, oz, kc, kb, ks, kx, on, og, od, ogd, A.run, evI, evOpt, evs, evP, argF, V.cs, binD, fzV, fzL, fzVs, dataVs, dataLs, V.data, L.data, unD, fillL, List.take_succ_cons, List.take_zero, List.drop_succ_cons, List.drop_zero, List.cons_append, ne_eq, Nat.reduceLT, Nat.reduceBEq, ↓reduceIte, Nat.reduceEqDiff, Nat.reduceAdd, Nat.reduceMul, Nat.reduceSub, Int.reduceToNat, Nat.reduceLeDiff, Int.reduceNeg, Int.reduceEq, Int.reduceLT, Int.reduceLE, Int.reduceBEq, Int.reduceBNe, Int.reduceToNat])
  · (simp (disch := first | decide | omega | (intros; exact Eq.trans rfl rfl) | (simp only [puri]; done)) only [a11_0, vis, visL, visB, fillR, rowsAt, toDs, toD, ↓ops_cons, ↓ops_consz, fzTs, fzLs, rg, rd, o, oz, kc, kb, ks, kx, on, og, od, ogd, A.run, evI, evOpt, evs, evP, argF, V.cs, binD, fzV, fzL, fzVs, dataVs, dataLs, V.data, L.data, unD, fillL, List.take_succ_cons, List.take_zero, List.drop_succ_cons, List.drop_zero, List.cons_append, ne_eq, Nat.reduceLT, Nat.reduceBEq, ↓reduceIte, Nat.reduceEqDiff, Nat.reduceAdd, Nat.reduceMul, Nat.reduceSub, Int.reduceToNat, Nat.reduceLeDiff, Int.reduceNeg, Int.reduceEq, Int.reduceLT, Int.reduceLE, Int.reduceBEq, Int.reduceBNe, Int.reduceToNat, dis])
theorem indexM_len (b e : Int) : ∀ (l : List (Rec × Nat)), (indexM l b e).length ≤ l.length := by
  have key : ∀ (l : List (Rec × Nat)) (o : List Mk), (l.foldl (fun o x => addM o b e (x.1.at_, x.2)) o).length ≤ o.length + l.length := by
    intro l
    induction l with
    | nil => intro o; simp
    | cons x l ih =>
      intro o
      have := ih (addM o b e (x.1.at_, x.2))
      have h2 : (addM o b e (x.1.at_, x.2)).length ≤ o.length + 1 := by unfold addM; split <;> simp
      simp only [List.foldl_cons, List.length_cons]; omega
  intro l
  have := key l []
  unfold indexM
  simpa using this
theorem indexM_snoc (l : List (Rec × Nat)) (x : Rec × Nat) (b e : Int) : indexM (l ++ [x]) b e = addM (indexM l b e) b e (x.1.at_, x.2) := by
  simp [indexM, List.foldl_append]
def indexS (s : List UInt8) (b e : Int) : List Mk := indexM (scanS s b).1 b e
theorem placesF_get {s : List UInt8} : ∀ (f a : Nat) (b : Int) (k : Nat) (h : k < (placesF f s a b).1.length), a ≤ s.length → s.length < a + f →
    (placesF f s a b).1[k].1.at_ = b + k ∧ (placesF f s a b).1[k].2 < s.length ∧ (placesF (s.length + 1 - (placesF f s a b).1[k].2) s (placesF f s a b).1[k].2 (b + k)).1 = (placesF f s a b).1.drop k := by
  intro f
  induction f with
  | zero => intro a b k h ha hf; omega
  | succ f ih =>
    intro a b k h ha hf
    rcases Nat.lt_or_ge a s.length with hal | hal
    · obtain ⟨⟨t, n, e⟩, hx⟩ : ∃ x, nextF s a = x := ⟨_, rfl⟩
      by_cases he : e = 0
      · subst he
        have hok := nextF_ok hx
        by_cases hg : (getR t).2 = 0
        · by_cases ho : (getR t).1.at_ = b
          · have e1 := placesF_step (f := f) hal hx hg ho
            cases k with
            | zero =>
              simp only [e1, List.getElem_cons_zero, List.drop_zero]
              refine ⟨by simp [ho], hal, ?_⟩
              have : b + ((0 : Nat) : Int) = b := by simp
              rw [this, placesF_fuel (s.length + 1 - a) (f + 1) a b ha (by omega) (by omega), e1]
            | succ k =>
              have hk : k < (placesF f s n (b + 1)).1.length := by rw [e1] at h; simpa using h
              have := ih n (b + 1) k hk (by omega) (by omega)
              simp only [e1, List.getElem_cons_succ, List.drop_succ_cons]
              have e2 : b + ((k + 1 : Nat) : Int) = b + 1 + (k : Int) := by omega
              rw [e2]
              exact this
          · rw [placesF_off hal hx hg ho] at h; simp at h
        · rw [placesF_bad hal hx hg] at h; simp at h
      · rw [placesF_stop hal hx he] at h; simp at h
    · rw [placesF_end hal] at h; simp at h
set_option maxRecDepth 8000 in
theorem refIndex_spec (s : List UInt8) (hs : s.length ≤ 1000000) (b e : Int) (hb : -9223372036854775808 ≤ b ∧ b < 9223372036854775808) (he : 1 ≤ e ∧ e ≤ 256) : call 13 [vs s, vi b, vi e] [] = some (vl ((indexS s b e).map mkE), []) := by
  apply enterS s13 rfl
  have hp := places_spec s hs b hb
  have hle := scanS_len s b
  have hget : ∀ k (h : k < (scanS s b).1.length), (scanS s b).1[k].1.at_ = b + k ∧ (0 ≤ b ∧ b ≤ 1099511627776) := by
    intro k h
    cases ho : offN b with
    | false =>
      have : scanS s b = ([], 0, 1) := by simp [scanS, ho]
      rw [this] at h; simp at h
    | true =>
      have e1 : scanS s b = placesF (s.length + 1) s 0 b := by simp [scanS, ho]
      have := placesF_get (s := s) (s.length + 1) 0 b k (by rw [← e1]; exact h) (Nat.zero_le _) (by omega)
      simp only [e1]
      exact ⟨this.1, by simpa [offN] using ho⟩
  unfold placesV at hp
  unfold indexS
  obtain ⟨⟨l, p, g⟩, hx⟩ : ∃ x, scanS s b = x := ⟨_, rfl⟩
  rw [hx] at hp hle ⊢
  simp only [hx] at hp hle hget ⊢
  (simp (disch := first | decide | omega | (intros; exact Eq.trans rfl rfl) | (simp only [puri]; done)) only [a13, hp, vis, visL, visB, fillR, rowsAt, toDs, toD, ↓ops_cons, ↓ops_consz, fzTs, fzLs, rg, rd, o, oz, kc, kb, ks, kx, on, og, od, ogd, A.run, evI, evOpt, evs, evP, argF, V.cs, binD, fzV, fzL, fzVs, dataVs, dataLs, V.data, L.data, unD, fillL, List.take_succ_cons, List.take_zero, List.drop_succ_cons, List.drop_zero, List.cons_append, ne_eq, Nat.reduceLT, Nat.reduceBEq, ↓reduceIte, Nat.reduceEqDiff, Nat.reduceAdd, Nat.reduceMul, Nat.reduceSub, Int.reduceToNat, Nat.reduceLeDiff, Int.reduceNeg, Int.reduceEq, Int.reduceLT, Int.reduceLE, Int.reduceBEq, Int.reduceBNe, Int.reduceToNat, dis])
  refine loop_data (σ := Nat) (fun i => l.length - i) (fun i => i ≤ l.length) (fun i => [vi b, vi e, vl (l.map ntE), vl ((indexM (l.take i) b e).map mkE), vi i])
    (fun i => (vl ((indexM l b e).map mkE), ([] : Hp))) (fun _ => by simp only [vis, visL, visB, fillR, rowsAt, toDs, toD, ↓ops_cons, ↓ops_consz, fzTs, fzLs, rg, rd, o, oz, kc, kb, ks, kx, on, og, od, ogd, A.run, evI, evOpt, evs, evP, argF, V.cs, binD, fzV, fzL, fzVs, dataVs, dataLs, V.data, L.data, unD, fillL, List.take_succ_cons, List.take_zero, List.drop_succ_cons, List.drop_zero, List.cons_append, ne_eq, Nat.reduceLT, Nat.reduceBEq, ↓reduceIte, Nat.reduceEqDiff, Nat.reduceAdd, Nat.reduceMul, Nat.reduceSub, Int.reduceToNat, Nat.reduceLeDiff, Int.reduceNeg, Int.reduceEq, Int.reduceLT, Int.reduceLE, Int.reduceBEq, Int.reduceBNe, Int.reduceToNat]) ?_ 0 (Nat.zero_le _) _ (by simp [vis, visL, visB, fillR, rowsAt, toDs, toD, ↓ops_cons, ↓ops_consz, fzTs, fzLs, rg, rd, o, oz, kc, kb, ks, kx, on, og, od, ogd, A.run, evI, evOpt, evs, evP, argF, V.cs, binD, fzV, fzL, fzVs, dataVs, dataLs, V.data, L.data, unD, fillL, List.take_succ_cons, List.take_zero, List.drop_succ_cons, List.drop_zero, List.cons_append, ne_eq, Nat.reduceLT, Nat.reduceBEq, ↓reduceIte, Nat.reduceEqDiff, Nat.reduceAdd, Nat.reduceMul, Nat.reduceSub, Int.reduceToNat, Nat.reduceLeDiff, Int.reduceNeg, Int.reduceEq, Int.reduceLT, Int.reduceLE, Int.reduceBEq, Int.reduceBNe, Int.reduceToNat, indexM])
  intro i hi R hR
  rcases Nat.lt_or_ge i l.length with h | h
  · have g1 : (l.map ntE)[i]? = some (ntE l[i]) := by simp [h]
    have hg := hget i h
    have hll := indexM_len b e (l.take i)
    simp only [List.length_take] at hll
    have ha := refAdd_spec (indexM (l.take i) b e) (by omega) b e (b + i, l[i].2) hg.2 he (by simp only []; omega)
    simp only at ha
    (simp (disch := first | decide | omega | (intros; exact Eq.trans rfl rfl) | (simp only [puri]; done)) only [a13_0, g1, ntE_len, ntE_at, ha, vis, visL, visB, fillR, rowsAt, toDs, toD, ↓ops_cons, ↓ops_consz, fzTs, fzLs, rg, rd, o, oz, kc, kb, ks, kx, on, og, od, ogd, A.run, evI, evOpt, evs, evP, argF, V.cs, binD, fzV, fzL, fzVs, dataVs, dataLs, V.data, L.data, unD, fillL, List.take_succ_cons, List.take_zero, List.drop_succ_cons, List.drop_zero, List.cons_append, ne_eq, Nat.reduceLT, Nat.reduceBEq, ↓reduceIte, Nat.reduceEqDiff, Nat.reduceAdd, Nat.reduceMul, Nat.reduceSub, Int.reduceToNat, Nat.reduceLeDiff, Int.reduceNeg, Int.reduceEq, Int.reduceLT, Int.reduceLE, Int.reduceBEq, Int.reduceBNe, Int.reduceToNat, dis])
    have e2 : indexM (l.take (i + 1)) b e = addM (indexM (l.take i) b e) b e (b + i, l[i].2) := by
      rw [take_succ_get l i h, indexM_snoc, hg.1]
    exact hR (i + 1) (by omega) (by omega) _ (by simp [vis, visL, visB, fillR, rowsAt, toDs, toD, ↓ops_cons, ↓ops_consz, fzTs, fzLs, rg, rd, o, oz, kc, kb, ks, kx, on, og, od, ogd, A.run, evI, evOpt, evs, evP, argF, V.cs, binD, fzV, fzL, fzVs, dataVs, dataLs, V.data, L.data, unD, fillL, List.take_succ_cons, List.take_zero, List.drop_succ_cons, List.drop_zero, List.cons_append, ne_eq, Nat.reduceLT, Nat.reduceBEq, ↓reduceIte, Nat.reduceEqDiff, Nat.reduceAdd, Nat.reduceMul, Nat.reduceSub, Int.reduceToNat, Nat.reduceLeDiff, Int.reduceNeg, Int.reduceEq, Int.reduceLT, Int.reduceLE, Int.reduceBEq, Int.reduceBNe, Int.reduceToNat, e2])
  · (simp (disch := first | decide | omega | (intros; exact Eq.trans rfl rfl) | (simp only [puri]; done)) only [a13_0, vis, visL, visB, fillR, rowsAt, toDs, toD, ↓ops_cons, ↓ops_consz, fzTs, fzLs, rg, rd, o, oz, kc, kb, ks, kx, on, og, od, ogd, A.run, evI, evOpt, evs, evP, argF, V.cs, binD, fzV, fzL, fzVs, dataVs, dataLs, V.data, L.data, unD, fillL, List.take_succ_cons, List.take_zero, List.drop_succ_cons, List.drop_zero, List.cons_append, ne_eq, Nat.reduceLT, Nat.reduceBEq, ↓reduceIte, Nat.reduceEqDiff, Nat.reduceAdd, Nat.reduceMul, Nat.reduceSub, Int.reduceToNat, Nat.reduceLeDiff, Int.reduceNeg, Int.reduceEq, Int.reduceLT, Int.reduceLE, Int.reduceBEq, Int.reduceBNe, Int.reduceToNat, dis])
    rw [List.take_of_length_le h]
end Go.Proofs.Ythijgiinafanfaa
