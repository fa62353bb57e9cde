import Derived.Test.YtnkmkphdgebkgaaR47
set_option linter.unusedSimpArgs false
set_option linter.unusedVariables false
namespace Go.Proofs.Ytnkmkphdgebkgaa
open Go.Vi
set_option linter.unusedSimpArgs false

def rowsF : Nat → List UInt8 → Nat → List Rec × Nat × Int
  | 0, _, a => ([], a, 0)
  | f + 1, s, a => if s.length ≤ a then ([], a, 0) else
    match nextF s a with
    | (t, n, e) => if e = 0 then (if (getR t).2 = 0 then ((getR t).1 :: (rowsF f s n).1, (rowsF f s n).2) else ([], a, (getR t).2)) else ([], a, e)
theorem rowsF_step {s t : List UInt8} {a n f : Nat} (ha : a < s.length) (h : nextF s a = (t, n, 0)) (hg : (getR t).2 = 0) : rowsF (f + 1) s a = ((getR t).1 :: (rowsF f s n).1, (rowsF f s n).2) := by
  simp only [rowsF]; rw [if_neg (by omega), h]; simp only []; rw [if_pos trivial, if_pos hg]
theorem rowsF_bad {s t : List UInt8} {a n f : Nat} (ha : a < s.length) (h : nextF s a = (t, n, 0)) (hg : (getR t).2 ≠ 0) : rowsF (f + 1) s a = ([], a, (getR t).2) := by
  simp only [rowsF]; rw [if_neg (by omega), h]; simp only []; rw [if_pos trivial, if_neg hg]
theorem rowsF_stop {s t : List UInt8} {a n f : Nat} {e : Int} (ha : a < s.length) (h : nextF s a = (t, n, e)) (he : e ≠ 0) : rowsF (f + 1) s a = ([], a, e) := by
  simp only [rowsF]; rw [if_neg (by omega), h]; simp only []; rw [if_neg he]
theorem rowsF_end {s : List UInt8} {a f : Nat} (ha : s.length ≤ a) : rowsF f s a = ([], a, 0) := by
  cases f with
  | zero => rfl
  | succ f => simp only [rowsF]; rw [if_pos ha]
theorem nextF_tlen (s : List UInt8) (a : Nat) : (nextF s a).1.length ≤ s.length := by
  unfold nextF
  repeat' split
  all_goals (try simp)
  all_goals omega
theorem rowsF_fuel {s : List UInt8} : ∀ (g g' b : Nat), b ≤ s.length → s.length < b + g → s.length < b + g' → rowsF g s b = rowsF g' s b := by
  intro g
  induction g with
  | zero => intro g' b hb h1 h2; omega
  | succ g ih =>
    intro g' b hb h1 h2
    obtain ⟨g2, rfl⟩ : ∃ g2, g' = g2 + 1 := ⟨g' - 1, by omega⟩
    rcases Nat.lt_or_ge b s.length with hbl | hbl
    · obtain ⟨⟨t', n', e'⟩, hx'⟩ : ∃ x, nextF s b = x := ⟨_, rfl⟩
      by_cases he' : e' = 0
      · subst he'
        have hok' := nextF_ok hx'
        by_cases hg : (getR t').2 = 0
        · rw [rowsF_step hbl hx' hg, rowsF_step hbl hx' hg, ih g2 n' hok'.2 (by omega) (by omega)]
        · rw [rowsF_bad hbl hx' hg, rowsF_bad hbl hx' hg]
      · rw [rowsF_stop hbl hx' he', rowsF_stop hbl hx' he']
    · rw [rowsF_end hbl, rowsF_end hbl]
def rowsV (r : List Rec × Nat × Int) : V := .tup [(false, [.d (.l (r.1.map Rec.enc))]), (false, [.d (.i .i64 ((r.2.1 : Nat) : Int))]), (false, [.d (.i .i64 r.2.2)])]

set_option maxRecDepth 8000 in
theorem rows_spec (s : List UInt8) (hs : s.length ≤ 1000000) : call 20 [vs s] [] = some (rowsV (rowsF (s.length + 1 - 0) s 0), []) := by
  apply enterS s20 rfl
  (simp (disch := first | decide | omega | (intros; exact Eq.trans rfl rfl) | (simp only [puri]; done)) only [a20, vis, visL, visB, fillR, rowsAt, toDs, toD, ↓ops_cons, ↓ops_consz, fzTs, fzLs, rg, rd, o, oz, kc, kb, ks, kx, on, og, od, ogd, A.run, evI, evOpt, evs, evP, argF, V.cs, binD, fzV, fzL, fzVs, dataVs, dataLs, V.data, L.data, unD, fillL, List.take_succ_cons, List.take_zero, List.drop_succ_cons, List.drop_zero, List.cons_append, ne_eq, Nat.reduceLT, Nat.reduceBEq, ↓reduceIte, Nat.reduceEqDiff, Nat.reduceAdd, Nat.reduceMul, Nat.reduceSub, Int.reduceToNat, Nat.reduceLeDiff, Int.reduceNeg, Int.reduceEq, Int.reduceLT, Int.reduceLE, Int.reduceBEq, Int.reduceBNe, Int.reduceToNat, dis])
  refine loop_box (σ := Nat × List Rec) (fun t => s.length - t.1) (fun t => t.1 ≤ s.length ∧ t.2.length ≤ t.1) (fun t => [vs s, .one (.sl 0 3 0 t.2.length), vi t.1]) (fun t => [.arr 3 (t.2.map Rec.enc) 0])
    (fun t => (rowsV (t.2 ++ (rowsF (s.length + 1 - t.1) s t.1).1, (rowsF (s.length + 1 - t.1) s t.1).2), ([] : Hp))) ?_ (0, []) ⟨Nat.zero_le _, by simp⟩ _ _ (at_head2 (by decide) (by simp only [List.map_cons, List.map_nil, vis, visL, visB, fillR, rowsAt, toDs, toD, ↓ops_cons, ↓ops_consz, fzTs, fzLs, rg, rd, o, oz, kc, kb, ks, kx, on, og, od, ogd, A.run, evI, evOpt, evs, evP, argF, V.cs, binD, fzV, fzL, fzVs, dataVs, dataLs, V.data, L.data, unD, fillL, List.take_succ_cons, List.take_zero, List.drop_succ_cons, List.drop_zero, List.cons_append, ne_eq, Nat.reduceLT, Nat.reduceBEq, ↓reduceIte, Nat.reduceEqDiff, Nat.reduceAdd, Nat.reduceMul, Nat.reduceSub, Int.reduceToNat, Nat.reduceLeDiff, Int.reduceNeg, Int.reduceEq, Int.reduceLT, Int.reduceLE, Int.reduceBEq, Int.reduceBNe, Int.reduceToNat]; exact rfl) (by simp [idsOf, reach, place_cons, place_nil, canonH, V.ren, L.ren, Box.ren, V.refs, L.refs, Box.refs, true_and]) (by simp [idsOf, reach, place_cons, place_nil, canonH, V.ren, L.ren, Box.ren, V.refs, L.refs, Box.refs, true_and]))
  rintro ⟨a, out⟩ ⟨ha, hout⟩ R hR
  simp only at ha hout
  rcases Nat.lt_or_ge a s.length with h | h
  · obtain ⟨f, hf⟩ : ∃ f, s.length + 1 - a = f + 1 := ⟨s.length - a, by omega⟩
    have hn := next_spec s a (by omega) (by omega)
    have htl := nextF_tlen s a
    obtain ⟨⟨t, n, e⟩, hx⟩ : ∃ x, nextF s a = x := ⟨_, rfl⟩
    rw [hx] at hn htl
    by_cases he : e = 0
    · subst he
      have hok := nextF_ok hx
      have hg := get_spec t (by simp only [] at htl; omega)
      have hst := @rowsF_step s t a n f h hx
      have hbd := @rowsF_bad s t a n f h hx
      obtain ⟨⟨r, g⟩, hq⟩ : ∃ x, getR t = x := ⟨_, rfl⟩
      rw [hq] at hg hst hbd
      simp only [recV] at hg hst hbd
      by_cases hz : g = 0
      · subst hz
        simp only [hf, hst rfl]
        have e3 : rowsF f s n = rowsF (s.length + 1 - n) s n := rowsF_fuel _ _ n hok.2 (by omega) (by omega)
        have hm : List.map Rec.enc out ++ [r.enc] = List.map Rec.enc (out ++ [r]) := by simp
        (simp (disch := first | decide | omega | (intros; exact Eq.trans rfl rfl) | (simp only [puri]; done)) only [a20_0, hn, nextV, hg, Rec.len, Rec.tk, Rec.tkL, Rec.dat, Rec.lenL, vis, visL, visB, fillR, rowsAt, toDs, toD, ↓ops_cons, ↓ops_consz, fzTs, fzLs, rg, rd, o, oz, kc, kb, ks, kx, on, og, od, ogd, A.run, evI, evOpt, evs, evP, argF, V.cs, binD, fzV, fzL, fzVs, dataVs, dataLs, V.data, L.data, unD, fillL, List.take_succ_cons, List.take_zero, List.drop_succ_cons, List.drop_zero, List.cons_append, ne_eq, Nat.reduceLT, Nat.reduceBEq, ↓reduceIte, Nat.reduceEqDiff, Nat.reduceAdd, Nat.reduceMul, Nat.reduceSub, Int.reduceToNat, Nat.reduceLeDiff, Int.reduceNeg, Int.reduceEq, Int.reduceLT, Int.reduceLE, Int.reduceBEq, Int.reduceBNe, Int.reduceToNat, dis])
        have hR' := hR (n, out ++ [r]) (by simp only []; omega) ⟨hok.2, by simp; omega⟩
        simp only [List.append_assoc, List.singleton_append, ← e3] at hR'
        exact hR' _ _ (at_head2 (by decide) (by simp only [List.map_cons, List.map_nil, vis, visL, visB, fillR, rowsAt, toDs, toD, ↓ops_cons, ↓ops_consz, fzTs, fzLs, rg, rd, o, oz, kc, kb, ks, kx, on, og, od, ogd, A.run, evI, evOpt, evs, evP, argF, V.cs, binD, fzV, fzL, fzVs, dataVs, dataLs, V.data, L.data, unD, fillL, List.take_succ_cons, List.take_zero, List.drop_succ_cons, List.drop_zero, List.cons_append, ne_eq, Nat.reduceLT, Nat.reduceBEq, ↓reduceIte, Nat.reduceEqDiff, Nat.reduceAdd, Nat.reduceMul, Nat.reduceSub, Int.reduceToNat, Nat.reduceLeDiff, Int.reduceNeg, Int.reduceEq, Int.reduceLT, Int.reduceLE, Int.reduceBEq, Int.reduceBNe, Int.reduceToNat]; exact rfl) (by simp [idsOf, reach, place_cons, place_nil, canonH, V.ren, L.ren, Box.ren, V.refs, L.refs, Box.refs, Rec.rfs, Rec.rn]) (by simp [idsOf, reach, place_cons, place_nil, canonH, V.ren, L.ren, Box.ren, V.refs, L.refs, Box.refs, Rec.rfs, Rec.rn]))
      · simp only [hf, hbd hz]
        (simp (disch := first | decide | omega | (intros; exact Eq.trans rfl rfl) | (simp only [puri]; done)) only [a20_0, hn, nextV, hg, rowsV, Rec.len, Rec.tk, Rec.tkL, Rec.dat, Rec.lenL, vis, visL, visB, fillR, rowsAt, toDs, toD, ↓ops_cons, ↓ops_consz, fzTs, fzLs, rg, rd, o, oz, kc, kb, ks, kx, on, og, od, ogd, A.run, evI, evOpt, evs, evP, argF, V.cs, binD, fzV, fzL, fzVs, dataVs, dataLs, V.data, L.data, unD, fillL, List.take_succ_cons, List.take_zero, List.drop_succ_cons, List.drop_zero, List.cons_append, ne_eq, Nat.reduceLT, Nat.reduceBEq, ↓reduceIte, Nat.reduceEqDiff, Nat.reduceAdd, Nat.reduceMul, Nat.reduceSub, Int.reduceToNat, Nat.reduceLeDiff, Int.reduceNeg, Int.reduceEq, Int.reduceLT, Int.reduceLE, Int.reduceBEq, Int.reduceBNe, Int.reduceToNat, dis])
        try simp
    · simp only [hf, rowsF_stop h hx he]
      (simp (disch := first | decide | omega | (intros; exact Eq.trans rfl rfl) | (simp only [puri]; done)) only [a20_0, hn, nextV, rowsV, vis, visL, visB, fillR, rowsAt, toDs, toD, ↓ops_cons, ↓ops_consz, fzTs, fzLs, rg, rd, o, oz, kc, kb, ks, kx, on, og, od, ogd, A.run, evI, evOpt, evs, evP, argF, V.cs, binD, fzV, fzL, fzVs, dataVs, dataLs, V.data, L.data, unD, fillL, List.take_succ_cons, List.take_zero, List.drop_succ_cons, List.drop_zero, List.cons_append, ne_eq, Nat.reduceLT, Nat.reduceBEq, ↓reduceIte, Nat.reduceEqDiff, Nat.reduceAdd, Nat.reduceMul, Nat.reduceSub, Int.reduceToNat, Nat.reduceLeDiff, Int.reduceNeg, Int.reduceEq, Int.reduceLT, Int.reduceLE, Int.reduceBEq, Int.reduceBNe, Int.reduceToNat, dis])
      try simp
  · have hal : a = s.length := by omega
    subst hal
    simp only [rowsF_end (Nat.le_refl _)]
    (simp (disch := first | decide | omega | (intros; exact Eq.trans rfl rfl) | (simp only [puri]; done)) only [a20_0, rowsV, vis, visL, visB, fillR, rowsAt, toDs, toD, ↓ops_cons, ↓ops_consz, fzTs, fzLs, rg, rd, o, oz, kc, kb, ks, kx, on, og, od, ogd, A.run, evI, evOpt, evs, evP, argF, V.cs, binD, fzV, fzL, fzVs, dataVs, dataLs, V.data, L.data, unD, fillL, List.take_succ_cons, List.take_zero, List.drop_succ_cons, List.drop_zero, List.cons_append, ne_eq, Nat.reduceLT, Nat.reduceBEq, ↓reduceIte, Nat.reduceEqDiff, Nat.reduceAdd, Nat.reduceMul, Nat.reduceSub, Int.reduceToNat, Nat.reduceLeDiff, Int.reduceNeg, Int.reduceEq, Int.reduceLT, Int.reduceLE, Int.reduceBEq, Int.reduceBNe, Int.reduceToNat, dis])
    try simp
end Go.Proofs.Ytnkmkphdgebkgaa
