import Derived.Test.YtgcamaneelgejaaF09
set_option linter.unusedSimpArgs false
set_option linter.unusedVariables false
namespace Go.Proofs.Ytgcamaneelgejaa
open Go.Vi
set_option linter.unusedSimpArgs false

set_option maxRecDepth 8000 in
theorem frameTells_law1 (b s : List UInt8) (a : Int) (ha : -9223372036854775808 ≤ a ∧ a < 9223372036854775808) (hb : b.length ≤ 9223372036854775807) (hs : s.length ≤ 9223372036854775807) :
    call 3 [vs b, vs s, vi a] [] = some (vb true, []) := by
  apply enterS s3 rfl
  have haw := awake_spec
  by_cases c1 : b.length ≤ 70000
  · by_cases c2 : s.length ≤ 2000
    · have p1 := putFrame_spec b hb
      have p2 := refPutFrame_spec b hb
      obtain ⟨x, y, hxy⟩ : ∃ (x : List UInt8) (y : Int), putV b = .tup [(false, [.d (.s x)]), (false, [.d (.i .i64 y)])] := by
        unfold putV; split
        · exact ⟨_, _, rfl⟩
        · exact ⟨_, _, rfl⟩
      rw [hxy] at p1 p2
      have n12 : ∃ r, call 11 [vs s, vi a] [] = some (nextV r, []) ∧ call 12 [vs s, vi a] [] = some (nextV r, []) := by
        rcases Int.lt_or_le a 0 with h | h
        · exact ⟨_, next_neg s a h, refNext_neg s a h⟩
        · obtain ⟨k, rfl⟩ : ∃ k : Nat, a = k := ⟨a.toNat, by omega⟩
          exact ⟨_, next_spec s k (by omega) (by omega), refNext_spec s k (by omega) (by omega)⟩
      obtain ⟨⟨t, n, e⟩, n1, n2⟩ := n12
      have z1 := size_spec b.length
      have z2 := refSize_spec b.length
      have z3 := size_spec a
      have z4 := refSize_spec a
      (simp (disch := first | decide | omega | (intros; exact Eq.trans rfl rfl) | (simp only [puri]; done)) only [a3, haw, p1, p2, n1, n2, z1, z2, z3, z4, nextV, vis, visL, visB, fillR, rowsAt, toDs, toD, ↓ops_cons, ↓ops_consz, fzTs, fzLs, rg, rd, o, oz, kc, kb, ks, kx, on, og, od, ogd, A.run, evI, evOpt, evs, evP, argF, V.cs, binD, fzV, fzL, fzVs, dataVs, dataLs, V.data, L.data, unD, fillL, List.take_succ_cons, List.take_zero, List.drop_succ_cons, List.drop_zero, List.cons_append, ne_eq, Nat.reduceLT, Nat.reduceBEq, ↓reduceIte, Nat.reduceEqDiff, Nat.reduceAdd, Nat.reduceMul, Nat.reduceSub, Int.reduceToNat, Nat.reduceLeDiff, Int.reduceNeg, Int.reduceEq, Int.reduceLT, Int.reduceLE, Int.reduceBEq, Int.reduceBNe, Int.reduceToNat, dis])
    · (simp (disch := first | decide | omega | (intros; exact Eq.trans rfl rfl) | (simp only [puri]; done)) only [a3, haw, vis, visL, visB, fillR, rowsAt, toDs, toD, ↓ops_cons, ↓ops_consz, fzTs, fzLs, rg, rd, o, oz, kc, kb, ks, kx, on, og, od, ogd, A.run, evI, evOpt, evs, evP, argF, V.cs, binD, fzV, fzL, fzVs, dataVs, dataLs, V.data, L.data, unD, fillL, List.take_succ_cons, List.take_zero, List.drop_succ_cons, List.drop_zero, List.cons_append, ne_eq, Nat.reduceLT, Nat.reduceBEq, ↓reduceIte, Nat.reduceEqDiff, Nat.reduceAdd, Nat.reduceMul, Nat.reduceSub, Int.reduceToNat, Nat.reduceLeDiff, Int.reduceNeg, Int.reduceEq, Int.reduceLT, Int.reduceLE, Int.reduceBEq, Int.reduceBNe, Int.reduceToNat, dis])
  · (simp (disch := first | decide | omega | (intros; exact Eq.trans rfl rfl) | (simp only [puri]; done)) only [a3, haw, vis, visL, visB, fillR, rowsAt, toDs, toD, ↓ops_cons, ↓ops_consz, fzTs, fzLs, rg, rd, o, oz, kc, kb, ks, kx, on, og, od, ogd, A.run, evI, evOpt, evs, evP, argF, V.cs, binD, fzV, fzL, fzVs, dataVs, dataLs, V.data, L.data, unD, fillL, List.take_succ_cons, List.take_zero, List.drop_succ_cons, List.drop_zero, List.cons_append, ne_eq, Nat.reduceLT, Nat.reduceBEq, ↓reduceIte, Nat.reduceEqDiff, Nat.reduceAdd, Nat.reduceMul, Nat.reduceSub, Int.reduceToNat, Nat.reduceLeDiff, Int.reduceNeg, Int.reduceEq, Int.reduceLT, Int.reduceLE, Int.reduceBEq, Int.reduceBNe, Int.reduceToNat, dis])

set_option maxRecDepth 8000 in
theorem frameAll_law1 (s : List UInt8) (hs : s.length ≤ 9223372036854775807) : call 5 [vs s] [] = some (vb true, []) := by
  apply enterS s5 rfl
  have haw := awake_spec
  by_cases c2 : s.length ≤ 2000
  · have h1 := all_spec s (by omega)
    have h2 := refAll_spec s (by omega)
    have hlen : ∀ (f a : Nat), a ≤ s.length → (allF f s a).1.length + a ≤ s.length := by
      intro f
      induction f with
      | zero => intro a h; simpa [allF] using h
      | succ f ih =>
        intro a h
        rcases Nat.lt_or_ge a s.length with hal | hal
        · obtain ⟨⟨t, n, e⟩, hx⟩ : ∃ x, nextF s a = x := ⟨_, rfl⟩
          by_cases he : e = 0
          · subst he
            have := nextF_ok hx
            rw [allF_step hal hx]
            have := ih n (by omega)
            simp only [List.length_cons]; omega
          · rw [allF_stop hal hx he]; simpa using h
        · rw [allF_end hal]; simpa using h
    have hl := hlen (s.length + 1 - 0) 0 (Nat.zero_le _)
    obtain ⟨⟨l, n, e⟩, hx⟩ : ∃ x, allF (s.length + 1 - 0) s 0 = x := ⟨_, rfl⟩
    rw [hx] at h1 h2 hl
    have h3 := same_spec l l (by simp at hl; omega)
    rw [decide_eq_true rfl] at h3
    (simp (disch := first | decide | omega | (intros; exact Eq.trans rfl rfl) | (simp only [puri]; done)) only [a5, haw, h1, h2, h3, allV, vis, visL, visB, fillR, rowsAt, toDs, toD, ↓ops_cons, ↓ops_consz, fzTs, fzLs, rg, rd, o, oz, kc, kb, ks, kx, on, og, od, ogd, A.run, evI, evOpt, evs, evP, argF, V.cs, binD, fzV, fzL, fzVs, dataVs, dataLs, V.data, L.data, unD, fillL, List.take_succ_cons, List.take_zero, List.drop_succ_cons, List.drop_zero, List.cons_append, ne_eq, Nat.reduceLT, Nat.reduceBEq, ↓reduceIte, Nat.reduceEqDiff, Nat.reduceAdd, Nat.reduceMul, Nat.reduceSub, Int.reduceToNat, Nat.reduceLeDiff, Int.reduceNeg, Int.reduceEq, Int.reduceLT, Int.reduceLE, Int.reduceBEq, Int.reduceBNe, Int.reduceToNat, dis])
  · (simp (disch := first | decide | omega | (intros; exact Eq.trans rfl rfl) | (simp only [puri]; done)) only [a5, haw, vis, visL, visB, fillR, rowsAt, toDs, toD, ↓ops_cons, ↓ops_consz, fzTs, fzLs, rg, rd, o, oz, kc, kb, ks, kx, on, og, od, ogd, A.run, evI, evOpt, evs, evP, argF, V.cs, binD, fzV, fzL, fzVs, dataVs, dataLs, V.data, L.data, unD, fillL, List.take_succ_cons, List.take_zero, List.drop_succ_cons, List.drop_zero, List.cons_append, ne_eq, Nat.reduceLT, Nat.reduceBEq, ↓reduceIte, Nat.reduceEqDiff, Nat.reduceAdd, Nat.reduceMul, Nat.reduceSub, Int.reduceToNat, Nat.reduceLeDiff, Int.reduceNeg, Int.reduceEq, Int.reduceLT, Int.reduceLE, Int.reduceBEq, Int.reduceBNe, Int.reduceToNat, dis])

theorem frameTells_pure (xs : List V) (h : wfAs [(false, [.s]), (false, [.s]), (false, [.i .i64])] xs) : call 3 xs [] = some (vb true, []) := by
  simp only [wfAs, wfA] at h
  obtain ⟨_, _, rfl, ⟨d, rfl, hd⟩, _, _, rfl, ⟨e, rfl, he⟩, _, _, rfl, ⟨n, rfl, hn⟩, rfl⟩ := h
  simp only [wfRow, wfT] at hd he hn
  obtain ⟨_, _, e1, ⟨b, rfl, hb⟩, rfl⟩ := hd
  obtain ⟨_, _, e2, ⟨s, rfl, hs⟩, rfl⟩ := he
  obtain ⟨_, _, e3, ⟨a, rfl, h1, h2⟩, rfl⟩ := hn
  cases e1; cases e2; cases e3
  exact frameTells_law1 b s a ⟨Int.le_trans (by decide) h1, Int.lt_of_le_of_lt h2 (by decide)⟩ hb hs
theorem frameAll_pure (xs : List V) (h : wfAs [(false, [.s])] xs) : call 5 xs [] = some (vb true, []) := by
  simp only [wfAs, wfA] at h
  obtain ⟨_, _, rfl, ⟨d, rfl, hd⟩, rfl⟩ := h
  simp only [wfRow, wfT] at hd
  obtain ⟨_, _, e1, ⟨b, rfl, hb⟩, rfl⟩ := hd
  cases e1
  exact frameAll_law1 b hb
end Go.Proofs.Ytgcamaneelgejaa
