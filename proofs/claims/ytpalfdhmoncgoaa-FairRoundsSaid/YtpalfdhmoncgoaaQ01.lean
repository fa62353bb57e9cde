import Derived.Test.YtpalfdhmoncgoaaX28Tab
set_option linter.unusedSimpArgs false
set_option linter.unusedVariables false
namespace Go.Proofs.Ytpalfdhmoncgoaa
open Go.Vi
set_option linter.unusedSimpArgs false

def encI (n : Int) : List D := [.i .i64 n]
theorem encI_len (n : Int) : (encI n).length = 1 := Eq.trans rfl rfl
theorem encI_at (n : Int) : (encI n)[0]? = some (.i .i64 n) := Eq.trans rfl rfl
def encB (n : Int) : List D := [.i .u8 n]
theorem encB_len (n : Int) : (encB n).length = 1 := Eq.trans rfl rfl
theorem encB_at (n : Int) : (encB n)[0]? = some (.i .u8 n) := Eq.trans rfl rfl

/-! ### picks -/
set_option maxRecDepth 8000 in
theorem picks_spec (l : List Int) (hl : l.length ≤ 9223372036854775807) (hr : ∀ n ∈ l, 0 ≤ n ∧ n < 256) : call 6 [vl (l.map encB)] [] = some (vl ((l.take 30).map encI), []) := by
  apply enterS s6 rfl
  obtain ⟨Z, hZ⟩ : ∃ Z : V × Hp, Z = (vl ((l.take 30).map encI), []) := ⟨_, rfl⟩
  rw [← hZ]
  (simp (disch := first | decide | omega | (intros; exact Eq.trans rfl rfl) | (simp only [puri]; done)) only [a6, vis, visL, visB, fillR, rowsAt, toDs, toD, ↓ops_cons, ↓ops_consz, fzTs, fzLs, rg, rd, o, oz, kc, kb, ks, kx, on, og, od, ogd, A.run, evI, evOpt, evs, evP, argF, V.cs, binD, fzV, fzL, fzVs, dataVs, dataLs, V.data, L.data, unD, fillL, List.take_succ_cons, List.take_zero, List.drop_succ_cons, List.drop_zero, List.cons_append, ne_eq, Nat.reduceLT, Nat.reduceBEq, ↓reduceIte, Nat.reduceEqDiff, Nat.reduceAdd, Nat.reduceMul, Nat.reduceSub, Int.reduceToNat, Nat.reduceLeDiff, Int.reduceNeg, Int.reduceEq, Int.reduceLT, Int.reduceLE, Int.reduceBEq, Int.reduceBNe, Int.reduceToNat, dis])
  refine loop_boxM (m := 0) (σ := Nat) (fun i => l.length - i) (fun i => i ≤ l.length ∧ i ≤ 30) (fun i => [vl (l.map encB), V.one (.sl 0 1 0 i), vi i]) (fun i => [.arr 1 ((l.take i).map encI) 0]) (fun _ => Z) ?_ 0 ⟨Nat.zero_le _, by omega⟩ _ _ ?_
  rotate_left
  · exact (at_headM (by decide) (by simp only [List.map_cons, List.map_nil, vis, visL, visB, fillR, rowsAt, toDs, toD, ↓ops_cons, ↓ops_consz, fzTs, fzLs, rg, rd, o, oz, kc, kb, ks, kx, on, og, od, ogd, A.run, evI, evOpt, evs, evP, argF, V.cs, binD, fzV, fzL, fzVs, dataVs, dataLs, V.data, L.data, unD, fillL, List.take_succ_cons, List.take_zero, List.drop_succ_cons, List.drop_zero, List.cons_append, ne_eq, Nat.reduceLT, Nat.reduceBEq, ↓reduceIte, Nat.reduceEqDiff, Nat.reduceAdd, Nat.reduceMul, Nat.reduceSub, Int.reduceToNat, Nat.reduceLeDiff, Int.reduceNeg, Int.reduceEq, Int.reduceLT, Int.reduceLE, Int.reduceBEq, Int.reduceBNe, Int.reduceToNat]; exact rfl) (by rfl) (by rfl) (by rfl))
  intro i hi R hR
  by_cases h1 : i < l.length
  · by_cases h2 : i < 30
    · have g1 : (l.map encB)[i]? = some (encB l[i]) := by simp [h1]
      have hw : IntKind.i64.wrap l[i] = l[i] := by have := hr _ (List.getElem_mem h1); rw [wrap_i (by omega)]
      have ht : (l.take (i + 1)).map encI = (l.take i).map encI ++ [encI l[i]] := by rw [List.take_succ_eq_append_getElem h1, List.map_append]; rfl
      have hlen : (l.take i).length = i := by simp; omega
      have hR' := hR (i + 1) (by omega) (by omega)
      rw [ht] at hR'
      have hl2 : ((l.take i).map encI).length = i := by simp; omega
      generalize (l.take i).map encI = q at hR' hl2 ⊢
      (simp (disch := first | decide | omega | (intros; exact Eq.trans rfl rfl) | (simp only [puri]; done)) only [a6_0, h1, h2, g1, encB_len, encB_at, hw, hl2, encI, vis, visL, visB, fillR, rowsAt, toDs, toD, ↓ops_cons, ↓ops_consz, fzTs, fzLs, rg, rd, o, oz, kc, kb, ks, kx, on, og, od, ogd, A.run, evI, evOpt, evs, evP, argF, V.cs, binD, fzV, fzL, fzVs, dataVs, dataLs, V.data, L.data, unD, fillL, List.take_succ_cons, List.take_zero, List.drop_succ_cons, List.drop_zero, List.cons_append, ne_eq, Nat.reduceLT, Nat.reduceBEq, ↓reduceIte, Nat.reduceEqDiff, Nat.reduceAdd, Nat.reduceMul, Nat.reduceSub, Int.reduceToNat, Nat.reduceLeDiff, Int.reduceNeg, Int.reduceEq, Int.reduceLT, Int.reduceLE, Int.reduceBEq, Int.reduceBNe, Int.reduceToNat, dis])
      exact hR' _ _ (at_headM (by decide) (by simp only [List.map_cons, List.map_nil, vis, visL, visB, fillR, rowsAt, toDs, toD, ↓ops_cons, ↓ops_consz, fzTs, fzLs, rg, rd, o, oz, kc, kb, ks, kx, on, og, od, ogd, A.run, evI, evOpt, evs, evP, argF, V.cs, binD, fzV, fzL, fzVs, dataVs, dataLs, V.data, L.data, unD, fillL, List.take_succ_cons, List.take_zero, List.drop_succ_cons, List.drop_zero, List.cons_append, ne_eq, Nat.reduceLT, Nat.reduceBEq, ↓reduceIte, Nat.reduceEqDiff, Nat.reduceAdd, Nat.reduceMul, Nat.reduceSub, Int.reduceToNat, Nat.reduceLeDiff, Int.reduceNeg, Int.reduceEq, Int.reduceLT, Int.reduceLE, Int.reduceBEq, Int.reduceBNe, Int.reduceToNat]; exact rfl) (by rfl) (by rfl) (by rfl))
    · have hl2 : ((l.take i).map encI).length = i := by simp; omega
      have h30 : i = 30 := by omega
      subst h30
      generalize (l.take 30).map encI = q at hZ hl2 ⊢
      have htk : q.take 30 = q := List.take_of_length_le (by omega)
      (simp (disch := first | decide | omega | (intros; exact Eq.trans rfl rfl) | (simp only [puri]; done)) only [a6_0, h1, hl2, htk, vis, visL, visB, fillR, rowsAt, toDs, toD, ↓ops_cons, ↓ops_consz, fzTs, fzLs, rg, rd, o, oz, kc, kb, ks, kx, on, og, od, ogd, A.run, evI, evOpt, evs, evP, argF, V.cs, binD, fzV, fzL, fzVs, dataVs, dataLs, V.data, L.data, unD, fillL, List.take_succ_cons, List.take_zero, List.drop_succ_cons, List.drop_zero, List.cons_append, ne_eq, Nat.reduceLT, Nat.reduceBEq, ↓reduceIte, Nat.reduceEqDiff, Nat.reduceAdd, Nat.reduceMul, Nat.reduceSub, Int.reduceToNat, Nat.reduceLeDiff, Int.reduceNeg, Int.reduceEq, Int.reduceLT, Int.reduceLE, Int.reduceBEq, Int.reduceBNe, Int.reduceToNat, dis])
      rw [hZ]
  · have hi2 : i = l.length := by omega
    subst hi2
    have hl2 : ((l.take l.length).map encI).length = l.length := by simp
    have e : l.take l.length = l.take 30 := by rw [List.take_of_length_le (Nat.le_refl _), List.take_of_length_le (by omega)]
    rw [e] at hl2 ⊢
    generalize (l.take 30).map encI = q at hZ hl2 ⊢
    have htk : q.take l.length = q := List.take_of_length_le (by omega)
    (simp (disch := first | decide | omega | (intros; exact Eq.trans rfl rfl) | (simp only [puri]; done)) only [a6_0, hl2, htk, vis, visL, visB, fillR, rowsAt, toDs, toD, ↓ops_cons, ↓ops_consz, fzTs, fzLs, rg, rd, o, oz, kc, kb, ks, kx, on, og, od, ogd, A.run, evI, evOpt, evs, evP, argF, V.cs, binD, fzV, fzL, fzVs, dataVs, dataLs, V.data, L.data, unD, fillL, List.take_succ_cons, List.take_zero, List.drop_succ_cons, List.drop_zero, List.cons_append, ne_eq, Nat.reduceLT, Nat.reduceBEq, ↓reduceIte, Nat.reduceEqDiff, Nat.reduceAdd, Nat.reduceMul, Nat.reduceSub, Int.reduceToNat, Nat.reduceLeDiff, Int.reduceNeg, Int.reduceEq, Int.reduceLT, Int.reduceLE, Int.reduceBEq, Int.reduceBNe, Int.reduceToNat, dis])
    rw [hZ]
end Go.Proofs.Ytpalfdhmoncgoaa
