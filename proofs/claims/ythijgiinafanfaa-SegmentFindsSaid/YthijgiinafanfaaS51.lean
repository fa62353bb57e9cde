import Derived.Test.YthijgiinafanfaaB50
import Derived.Test.YthijgiinafanfaaVic
set_option linter.unusedSimpArgs false
set_option linter.unusedVariables false
namespace Go.Proofs.Ythijgiinafanfaa
open Go.Vi
set_option linter.unusedSimpArgs false

/-! ### the records of a segment, with their places -/
def placesF : Nat → List UInt8 → Nat → Int → List (Rec × Nat) × Nat × Int
  | 0, _, a, _ => ([], a, 0)
  | f + 1, s, a, b => if s.length ≤ a then ([], a, 0) else
    match nextF s a with
    | (t, n, e) => if e = 0 then (if (getR t).2 = 0 then (if (getR t).1.at_ = b then (((getR t).1, a) :: (placesF f s n (b + 1)).1, (placesF f s n (b + 1)).2) else ([], a, 3)) else ([], a, (getR t).2)) else ([], a, e)
theorem placesF_step {s t : List UInt8} {a n f : Nat} {b : Int} (ha : a < s.length) (h : nextF s a = (t, n, 0)) (hg : (getR t).2 = 0) (hb : (getR t).1.at_ = b) : placesF (f + 1) s a b = (((getR t).1, a) :: (placesF f s n (b + 1)).1, (placesF f s n (b + 1)).2) := by
  simp only [placesF]; rw [if_neg (by omega), h]; simp only []; rw [if_pos trivial, if_pos hg, if_pos hb]
theorem placesF_off {s t : List UInt8} {a n f : Nat} {b : Int} (ha : a < s.length) (h : nextF s a = (t, n, 0)) (hg : (getR t).2 = 0) (hb : (getR t).1.at_ ≠ b) : placesF (f + 1) s a b = ([], a, 3) := by
  simp only [placesF]; rw [if_neg (by omega), h]; simp only []; rw [if_pos trivial, if_pos hg, if_neg hb]
theorem placesF_bad {s t : List UInt8} {a n f : Nat} {b : Int} (ha : a < s.length) (h : nextF s a = (t, n, 0)) (hg : (getR t).2 ≠ 0) : placesF (f + 1) s a b = ([], a, (getR t).2) := by
  simp only [placesF]; rw [if_neg (by omega), h]; simp only []; rw [if_pos trivial, if_neg hg]
theorem placesF_stop {s t : List UInt8} {a n f : Nat} {e b : Int} (ha : a < s.length) (h : nextF s a = (t, n, e)) (he : e ≠ 0) : placesF (f + 1) s a b = ([], a, e) := by
  simp only [placesF]; rw [if_neg (by omega), h]; simp only []; rw [if_neg he]
theorem placesF_end {s : List UInt8} {a f : Nat} {b : Int} (ha : s.length ≤ a) : placesF f s a b = ([], a, 0) := by
  cases f with
  | zero => rfl
  | succ f => simp only [placesF]; rw [if_pos ha]

theorem placesF_fuel {s : List UInt8} : ∀ (g g' b : Nat) (o : Int), b ≤ s.length → s.length < b + g → s.length < b + g' → placesF g s b o = placesF g' s b o := by
  intro g
  induction g with
  | zero => intro g' b o hb h1 h2; omega
  | succ g ih =>
    intro g' b o hb h1 h2
    obtain ⟨g2, rfl⟩ : ∃ g2, g' = g2 + 1 := ⟨g' - 1, by omega⟩
    rcases Nat.lt_or_ge b s.length with hbl | hbl
    · obtain ⟨⟨t', n', e'⟩, hx'⟩ : ∃ x, nextF s b = x := ⟨_, rfl⟩
      by_cases he' : e' = 0
      · subst he'
        have hok' := nextF_ok hx'
        by_cases hg : (getR t').2 = 0
        · by_cases ho : (getR t').1.at_ = o
          · rw [placesF_step hbl hx' hg ho, placesF_step hbl hx' hg ho, ih g2 n' _ hok'.2 (by omega) (by omega)]
          · rw [placesF_off hbl hx' hg ho, placesF_off hbl hx' hg ho]
        · rw [placesF_bad hbl hx' hg, placesF_bad hbl hx' hg]
      · rw [placesF_stop hbl hx' he', placesF_stop hbl hx' he']
    · rw [placesF_end hbl, placesF_end hbl]

set_option maxRecDepth 8000 in
theorem good_spec (n : Int) (hn : -9223372036854775808 ≤ n ∧ n < 9223372036854775808) : call 18 [vi n] [] = some (vb (offN n), []) := by
  apply enterS s18 rfl
  unfold offN
  by_cases c : 0 ≤ n
  · have e : IntKind.u64.wrap n = n := wrap_u64 ⟨c, by omega⟩
    by_cases c2 : n ≤ 1099511627776
    · (simp (disch := first | decide | omega | (intros; exact Eq.trans rfl rfl) | (simp only [puri]; done)) only [a18, e, c, c2, vis, visL, visB, fillR, rowsAt, toDs, toD, ↓ops_cons, ↓ops_consz, fzTs, fzLs, rg, rd, o, oz, kc, kb, ks, kx, on, og, od, ogd, A.run, evI, evOpt, evs, evP, argF, V.cs, binD, fzV, fzL, fzVs, dataVs, dataLs, V.data, L.data, unD, fillL, List.take_succ_cons, List.take_zero, List.drop_succ_cons, List.drop_zero, List.cons_append, ne_eq, Nat.reduceLT, Nat.reduceBEq, ↓reduceIte, Nat.reduceEqDiff, Nat.reduceAdd, Nat.reduceMul, Nat.reduceSub, Int.reduceToNat, Nat.reduceLeDiff, Int.reduceNeg, Int.reduceEq, Int.reduceLT, Int.reduceLE, Int.reduceBEq, Int.reduceBNe, Int.reduceToNat, dis])
    · (simp (disch := first | decide | omega | (intros; exact Eq.trans rfl rfl) | (simp only [puri]; done)) only [a18, e, c, c2, vis, visL, visB, fillR, rowsAt, toDs, toD, ↓ops_cons, ↓ops_consz, fzTs, fzLs, rg, rd, o, oz, kc, kb, ks, kx, on, og, od, ogd, A.run, evI, evOpt, evs, evP, argF, V.cs, binD, fzV, fzL, fzVs, dataVs, dataLs, V.data, L.data, unD, fillL, List.take_succ_cons, List.take_zero, List.drop_succ_cons, List.drop_zero, List.cons_append, ne_eq, Nat.reduceLT, Nat.reduceBEq, ↓reduceIte, Nat.reduceEqDiff, Nat.reduceAdd, Nat.reduceMul, Nat.reduceSub, Int.reduceToNat, Nat.reduceLeDiff, Int.reduceNeg, Int.reduceEq, Int.reduceLT, Int.reduceLE, Int.reduceBEq, Int.reduceBNe, Int.reduceToNat, dis])
  · have e : IntKind.u64.wrap n = n + 18446744073709551616 := by
      simp [IntKind.wrap, IntKind.bits, IntKind.signed]; omega
    (simp (disch := first | decide | omega | (intros; exact Eq.trans rfl rfl) | (simp only [puri]; done)) only [a18, e, c, Bool.false_and, vis, visL, visB, fillR, rowsAt, toDs, toD, ↓ops_cons, ↓ops_consz, fzTs, fzLs, rg, rd, o, oz, kc, kb, ks, kx, on, og, od, ogd, A.run, evI, evOpt, evs, evP, argF, V.cs, binD, fzV, fzL, fzVs, dataVs, dataLs, V.data, L.data, unD, fillL, List.take_succ_cons, List.take_zero, List.drop_succ_cons, List.drop_zero, List.cons_append, ne_eq, Nat.reduceLT, Nat.reduceBEq, ↓reduceIte, Nat.reduceEqDiff, Nat.reduceAdd, Nat.reduceMul, Nat.reduceSub, Int.reduceToNat, Nat.reduceLeDiff, Int.reduceNeg, Int.reduceEq, Int.reduceLT, Int.reduceLE, Int.reduceBEq, Int.reduceBNe, Int.reduceToNat, dis])

theorem records_spec (xs : List L) : call 19 [.one (.p 0 0)] [.cells xs] = some (.one (.f 25 [1]), [.cells xs, .cells [.p 0 0]]) := by
  apply enterS s19 rfl
  (simp (disch := first | decide | omega | (intros; exact Eq.trans rfl rfl) | (simp only [puri]; done)) only [a19, List.mapM_cons, List.mapM_nil, Option.pure_def, Option.bind_eq_bind, Option.bind_some, vis, visL, visB, fillR, rowsAt, toDs, toD, ↓ops_cons, ↓ops_consz, fzTs, fzLs, rg, rd, o, oz, kc, kb, ks, kx, on, og, od, ogd, A.run, evI, evOpt, evs, evP, argF, V.cs, binD, fzV, fzL, fzVs, dataVs, dataLs, V.data, L.data, unD, fillL, List.take_succ_cons, List.take_zero, List.drop_succ_cons, List.drop_zero, List.cons_append, ne_eq, Nat.reduceLT, Nat.reduceBEq, ↓reduceIte, Nat.reduceEqDiff, Nat.reduceAdd, Nat.reduceMul, Nat.reduceSub, Int.reduceToNat, Nat.reduceLeDiff, Int.reduceNeg, Int.reduceEq, Int.reduceLT, Int.reduceLE, Int.reduceBEq, Int.reduceBNe, Int.reduceToNat, dis])
  simp [trim, V.refs, L.refs]
end Go.Proofs.Ythijgiinafanfaa
