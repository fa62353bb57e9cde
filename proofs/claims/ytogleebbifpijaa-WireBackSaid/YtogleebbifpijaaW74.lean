import Derived.Test.YtogleebbifpijaaW73
set_option linter.unusedSimpArgs false
set_option linter.unusedVariables false
namespace Go.Proofs.Ytogleebbifpijaa
open Go.Vi
set_option linter.unusedSimpArgs false

def numsB (l : List Int) : List UInt8 := l.flatMap fun n => enc128 n.toNat
def natI (n : Int) : Prop := 0 ≤ n ∧ n < 9223372036854775808
theorem numsB_succ (l : List Int) (i : Nat) (h : i < l.length) : numsB (l.take (i + 1)) = numsB (l.take i) ++ enc128 l[i].toNat := by
  unfold numsB; rw [take_succ_get l i h, List.flatMap_append]; simp
theorem enc128_le9 {n : Nat} (h : n < 9223372036854775808) : (enc128 n).length ≤ 9 := nd_le9 h
theorem numsB_le (l : List Int) (h : ∀ n ∈ l, natI n) : ∀ i, i ≤ l.length → (numsB (l.take i)).length ≤ 9 * i
  | 0, _ => by simp [numsB]
  | i + 1, hi => by
    have ih := numsB_le l h i (by omega)
    rw [numsB_succ l i (by omega), List.length_append]
    have := h l[i] (List.getElem_mem _)
    have := enc128_le9 (n := l[i].toNat) (by unfold natI at this; omega)
    omega
theorem putI {n : Int} (h : natI n) : call 40 [vi n] [] = some (vs (enc128 n.toNat), []) := putN h.1 h.2
theorem refPutI {n : Int} (h : natI n) : call 36 [vi n] [] = some (vs (enc128 n.toNat), []) := refPutN h.1 h.2
theorem refNumbers_spec (l : List Int) (hl : l.length ≤ 100) (h : ∀ n ∈ l, natI n) : call 23 [vl (l.map encI)] [] = some (vs (numsB l), []) := by
  apply enterS s23 rfl
  (simp (disch := first | decide | omega | (intros; exact Eq.trans rfl rfl) | (simp only [puri]; done)) only [a23, vis, visL, visB, fillR, rowsAt, toDs, toD, ↓ops_cons, ↓ops_consz, fzTs, fzLs, rg, rd, o, oz, kc, kb, ks, kx, on, og, od, ogd, A.run, evI, evOpt, evs, evP, argF, V.cs, binD, fzV, fzL, fzVs, dataVs, dataLs, V.data, L.data, unD, fillL, List.take_succ_cons, List.take_zero, List.drop_succ_cons, List.drop_zero, List.cons_append, ne_eq, Nat.reduceLT, Nat.reduceBEq, ↓reduceIte, Nat.reduceEqDiff, Nat.reduceAdd, Nat.reduceMul, Nat.reduceSub, Int.reduceToNat, Nat.reduceLeDiff, Int.reduceNeg, Int.reduceEq, Int.reduceLT, Int.reduceLE, Int.reduceBEq, Int.reduceBNe, Int.reduceToNat, dis])
  refine loop_data (σ := Nat) (fun i => l.length - i) (fun i => i ≤ l.length) (fun i => [vl (l.map encI), vs (numsB (l.take i)), vi i]) (fun _ => (vs (numsB l), ([] : Hp))) (fun _ => by simp only [vis, visL, visB, fillR, rowsAt, toDs, toD, ↓ops_cons, ↓ops_consz, fzTs, fzLs, rg, rd, o, oz, kc, kb, ks, kx, on, og, od, ogd, A.run, evI, evOpt, evs, evP, argF, V.cs, binD, fzV, fzL, fzVs, dataVs, dataLs, V.data, L.data, unD, fillL, List.take_succ_cons, List.take_zero, List.drop_succ_cons, List.drop_zero, List.cons_append, ne_eq, Nat.reduceLT, Nat.reduceBEq, ↓reduceIte, Nat.reduceEqDiff, Nat.reduceAdd, Nat.reduceMul, Nat.reduceSub, Int.reduceToNat, Nat.reduceLeDiff, Int.reduceNeg, Int.reduceEq, Int.reduceLT, Int.reduceLE, Int.reduceBEq, Int.reduceBNe, Int.reduceToNat]) ?_ 0 (Nat.zero_le _) _ (by simp [vis, visL, visB, fillR, rowsAt, toDs, toD, ↓ops_cons, ↓ops_consz, fzTs, fzLs, rg, rd, o, oz, kc, kb, ks, kx, on, og, od, ogd, A.run, evI, evOpt, evs, evP, argF, V.cs, binD, fzV, fzL, fzVs, dataVs, dataLs, V.data, L.data, unD, fillL, List.take_succ_cons, List.take_zero, List.drop_succ_cons, List.drop_zero, List.cons_append, ne_eq, Nat.reduceLT, Nat.reduceBEq, ↓reduceIte, Nat.reduceEqDiff, Nat.reduceAdd, Nat.reduceMul, Nat.reduceSub, Int.reduceToNat, Nat.reduceLeDiff, Int.reduceNeg, Int.reduceEq, Int.reduceLT, Int.reduceLE, Int.reduceBEq, Int.reduceBNe, Int.reduceToNat, numsB])
  intro i hi R hR
  rcases Nat.lt_or_ge i l.length with h2 | h2
  · have g1 : (l.map encI)[i]? = some (encI l[i]) := by simp [h2]
    have hp := refPutI (h _ (List.getElem_mem h2))
    have hle := numsB_le l h i hi
    have h9 := enc128_le9 (n := l[i].toNat) (by have := h l[i] (List.getElem_mem h2); unfold natI at this; omega)
    (simp (disch := first | decide | omega | (intros; exact Eq.trans rfl rfl) | (simp only [puri]; done)) only [a23_0, g1, encI_len, encI_at, hp, vis, visL, visB, fillR, rowsAt, toDs, toD, ↓ops_cons, ↓ops_consz, fzTs, fzLs, rg, rd, o, oz, kc, kb, ks, kx, on, og, od, ogd, A.run, evI, evOpt, evs, evP, argF, V.cs, binD, fzV, fzL, fzVs, dataVs, dataLs, V.data, L.data, unD, fillL, List.take_succ_cons, List.take_zero, List.drop_succ_cons, List.drop_zero, List.cons_append, ne_eq, Nat.reduceLT, Nat.reduceBEq, ↓reduceIte, Nat.reduceEqDiff, Nat.reduceAdd, Nat.reduceMul, Nat.reduceSub, Int.reduceToNat, Nat.reduceLeDiff, Int.reduceNeg, Int.reduceEq, Int.reduceLT, Int.reduceLE, Int.reduceBEq, Int.reduceBNe, Int.reduceToNat, dis])
    exact hR (i + 1) (by omega) (by omega) _ (by simp [vis, visL, visB, fillR, rowsAt, toDs, toD, ↓ops_cons, ↓ops_consz, fzTs, fzLs, rg, rd, o, oz, kc, kb, ks, kx, on, og, od, ogd, A.run, evI, evOpt, evs, evP, argF, V.cs, binD, fzV, fzL, fzVs, dataVs, dataLs, V.data, L.data, unD, fillL, List.take_succ_cons, List.take_zero, List.drop_succ_cons, List.drop_zero, List.cons_append, ne_eq, Nat.reduceLT, Nat.reduceBEq, ↓reduceIte, Nat.reduceEqDiff, Nat.reduceAdd, Nat.reduceMul, Nat.reduceSub, Int.reduceToNat, Nat.reduceLeDiff, Int.reduceNeg, Int.reduceEq, Int.reduceLT, Int.reduceLE, Int.reduceBEq, Int.reduceBNe, Int.reduceToNat, numsB_succ l i h2])
  · (simp (disch := first | decide | omega | (intros; exact Eq.trans rfl rfl) | (simp only [puri]; done)) only [a23_0, vis, visL, visB, fillR, rowsAt, toDs, toD, ↓ops_cons, ↓ops_consz, fzTs, fzLs, rg, rd, o, oz, kc, kb, ks, kx, on, og, od, ogd, A.run, evI, evOpt, evs, evP, argF, V.cs, binD, fzV, fzL, fzVs, dataVs, dataLs, V.data, L.data, unD, fillL, List.take_succ_cons, List.take_zero, List.drop_succ_cons, List.drop_zero, List.cons_append, ne_eq, Nat.reduceLT, Nat.reduceBEq, ↓reduceIte, Nat.reduceEqDiff, Nat.reduceAdd, Nat.reduceMul, Nat.reduceSub, Int.reduceToNat, Nat.reduceLeDiff, Int.reduceNeg, Int.reduceEq, Int.reduceLT, Int.reduceLE, Int.reduceBEq, Int.reduceBNe, Int.reduceToNat, dis])
    rw [List.take_of_length_le h2]
def wrH (l : List Int) (bs : List UInt8) (i : Nat) : Hp := match i with
  | 0 => [.cells [.sl 1 1 0 bs.length], .arr 1 (rowsOfBytes bs) 0, .arr 1 (l.map encI) 0]
  | i + 1 => [.cells [.sl 3 1 0 (bs ++ numsB (l.take (i + 1))).length], .dead, .arr 1 (l.map encI) 0, .arr 1 (rowsOfBytes (bs ++ numsB (l.take (i + 1)))) 0]
def wrN (l : List Int) (i : Nat) : Hp := match i with
  | 0 => [.cells [.ns], .arr 1 (l.map encI) 0]
  | i + 1 => [.cells [.sl 2 1 0 (numsB (l.take (i + 1))).length], .arr 1 (l.map encI) 0, .arr 1 (rowsOfBytes (numsB (l.take (i + 1)))) 0]
theorem wrH_pos (l : List Int) (bs : List UInt8) (i : Nat) (h : 0 < i) : wrH l bs i = [.cells [.sl 3 1 0 (bs ++ numsB (l.take i)).length], .dead, .arr 1 (l.map encI) 0, .arr 1 (rowsOfBytes (bs ++ numsB (l.take i))) 0] := by
  cases i with
  | zero => omega
  | succ i => rfl
theorem wrN_pos (l : List Int) (i : Nat) (h : 0 < i) : wrN l i = [.cells [.sl 2 1 0 (numsB (l.take i)).length], .arr 1 (l.map encI) 0, .arr 1 (rowsOfBytes (numsB (l.take i))) 0] := by
  cases i with
  | zero => omega
  | succ i => rfl
set_option maxRecDepth 8000 in
theorem numbers_spec (l : List Int) (bs : List UInt8) (hl : 0 < l.length ∧ l.length ≤ 100) (hb : bs.length ≤ 1000000) (h : ∀ n ∈ l, natI n) :
    call 19 [.one (.p 0 0), .one (.sl 2 1 0 l.length)] [.cells [.sl 1 1 0 bs.length], .arr 1 (rowsOfBytes bs) 0, .arr 1 (l.map encI) 0] = some (.tup [], [.cells [.sl 3 1 0 (bs ++ numsB l).length], .dead, .arr 1 (l.map encI) 0, .arr 1 (rowsOfBytes (bs ++ numsB l)) 0]) := by
  apply enterS s19 rfl
  obtain ⟨Z, hZ⟩ : ∃ Z : V × Hp, Z = ((.tup [], [.cells [.sl 3 1 0 (bs ++ numsB l).length], .dead, .arr 1 (l.map encI) 0, .arr 1 (rowsOfBytes (bs ++ numsB l)) 0]) : V × Hp) := ⟨_, rfl⟩
  rw [← hZ]
  (simp (disch := first | decide | omega | (intros; exact Eq.trans rfl rfl) | (simp only [puri]; done)) only [a19, vis, visL, visB, fillR, rowsAt, toDs, toD, ↓ops_cons, ↓ops_consz, fzTs, fzLs, rg, rd, o, oz, kc, kb, ks, kx, on, og, od, ogd, A.run, evI, evOpt, evs, evP, argF, V.cs, binD, fzV, fzL, fzVs, dataVs, dataLs, V.data, L.data, unD, fillL, List.take_succ_cons, List.take_zero, List.drop_succ_cons, List.drop_zero, List.cons_append, ne_eq, Nat.reduceLT, Nat.reduceBEq, ↓reduceIte, Nat.reduceEqDiff, Nat.reduceAdd, Nat.reduceMul, Nat.reduceSub, Int.reduceToNat, Nat.reduceLeDiff, Int.reduceNeg, Int.reduceEq, Int.reduceLT, Int.reduceLE, Int.reduceBEq, Int.reduceBNe, Int.reduceToNat, dis])
  refine loop_boxM (m := 3) (σ := Nat) (fun i => l.length - i) (fun i => i ≤ l.length) (fun i => [V.one (.p 0 0), V.one (.sl 2 1 0 l.length), vi l.length, vi i]) (fun i => wrH l bs i) (fun _ => Z) ?_ 0 (Nat.zero_le _) _ _ ?_
  rotate_left
  · exact (at_headM (by decide) (by simp only [List.map_cons, List.map_nil, vis, visL, visB, fillR, rowsAt, toDs, toD, ↓ops_cons, ↓ops_consz, fzTs, fzLs, rg, rd, o, oz, kc, kb, ks, kx, on, og, od, ogd, A.run, evI, evOpt, evs, evP, argF, V.cs, binD, fzV, fzL, fzVs, dataVs, dataLs, V.data, L.data, unD, fillL, List.take_succ_cons, List.take_zero, List.drop_succ_cons, List.drop_zero, List.cons_append, ne_eq, Nat.reduceLT, Nat.reduceBEq, ↓reduceIte, Nat.reduceEqDiff, Nat.reduceAdd, Nat.reduceMul, Nat.reduceSub, Int.reduceToNat, Nat.reduceLeDiff, Int.reduceNeg, Int.reduceEq, Int.reduceLT, Int.reduceLE, Int.reduceBEq, Int.reduceBNe, Int.reduceToNat]; exact rfl) (by rfl) (by rfl) (by rfl))
  intro i hi R hR
  have hle := numsB_le l h i hi
  rcases Nat.lt_or_ge i l.length with h2 | h2
  · have g1 : (l.map encI)[i]? = some (encI l[i]) := by simp [h2]
    have hp := putI (h _ (List.getElem_mem h2))
    have h9 := enc128_le9 (n := l[i].toNat) (by have := h l[i] (List.getElem_mem h2); unfold natI at this; omega)
    have hR' := hR (i + 1) (by omega) (by omega)
    rw [wrH_pos l bs (i + 1) (by omega), numsB_succ l i h2] at hR'
    rcases i with _ | i
    · simp only [wrH]
      simp only [List.take_zero, show numsB [] = [] from rfl, List.nil_append, List.length_append] at hR'
      (simp (disch := first | decide | omega | (intros; exact Eq.trans rfl rfl) | (simp only [puri]; done)) only [a19_0, g1, encI_len, encI_at, hp, rowsOfBytes_len, okRows_bytes, rows_app, vis, visL, visB, fillR, rowsAt, toDs, toD, ↓ops_cons, ↓ops_consz, fzTs, fzLs, rg, rd, o, oz, kc, kb, ks, kx, on, og, od, ogd, A.run, evI, evOpt, evs, evP, argF, V.cs, binD, fzV, fzL, fzVs, dataVs, dataLs, V.data, L.data, unD, fillL, List.take_succ_cons, List.take_zero, List.drop_succ_cons, List.drop_zero, List.cons_append, ne_eq, Nat.reduceLT, Nat.reduceBEq, ↓reduceIte, Nat.reduceEqDiff, Nat.reduceAdd, Nat.reduceMul, Nat.reduceSub, Int.reduceToNat, Nat.reduceLeDiff, Int.reduceNeg, Int.reduceEq, Int.reduceLT, Int.reduceLE, Int.reduceBEq, Int.reduceBNe, Int.reduceToNat, dis])
      exact hR' _ _ (at_headM (by decide) (by simp only [List.map_cons, List.map_nil, vis, visL, visB, fillR, rowsAt, toDs, toD, ↓ops_cons, ↓ops_consz, fzTs, fzLs, rg, rd, o, oz, kc, kb, ks, kx, on, og, od, ogd, A.run, evI, evOpt, evs, evP, argF, V.cs, binD, fzV, fzL, fzVs, dataVs, dataLs, V.data, L.data, unD, fillL, List.take_succ_cons, List.take_zero, List.drop_succ_cons, List.drop_zero, List.cons_append, ne_eq, Nat.reduceLT, Nat.reduceBEq, ↓reduceIte, Nat.reduceEqDiff, Nat.reduceAdd, Nat.reduceMul, Nat.reduceSub, Int.reduceToNat, Nat.reduceLeDiff, Int.reduceNeg, Int.reduceEq, Int.reduceLT, Int.reduceLE, Int.reduceBEq, Int.reduceBNe, Int.reduceToNat]; exact rfl) (by rfl) (by rfl) (by rfl))
    · rw [wrH_pos l bs (i + 1) (by omega)]
      have hql : (bs ++ numsB (l.take (i + 1))).length ≤ 1000000 + 9 * (i + 1) := by rw [List.length_append]; omega
      rw [← List.append_assoc] at hR'
      generalize bs ++ numsB (l.take (i + 1)) = q at hR' hql ⊢
      simp only [List.length_append] at hR'
      (simp (disch := first | decide | omega | (intros; exact Eq.trans rfl rfl) | (simp only [puri]; done)) only [a19_0, g1, encI_len, encI_at, hp, rowsOfBytes_len, okRows_bytes, rows_app, vis, visL, visB, fillR, rowsAt, toDs, toD, ↓ops_cons, ↓ops_consz, fzTs, fzLs, rg, rd, o, oz, kc, kb, ks, kx, on, og, od, ogd, A.run, evI, evOpt, evs, evP, argF, V.cs, binD, fzV, fzL, fzVs, dataVs, dataLs, V.data, L.data, unD, fillL, List.take_succ_cons, List.take_zero, List.drop_succ_cons, List.drop_zero, List.cons_append, ne_eq, Nat.reduceLT, Nat.reduceBEq, ↓reduceIte, Nat.reduceEqDiff, Nat.reduceAdd, Nat.reduceMul, Nat.reduceSub, Int.reduceToNat, Nat.reduceLeDiff, Int.reduceNeg, Int.reduceEq, Int.reduceLT, Int.reduceLE, Int.reduceBEq, Int.reduceBNe, Int.reduceToNat, dis])
      exact hR' _ _ (at_headM (by decide) (by simp only [List.map_cons, List.map_nil, vis, visL, visB, fillR, rowsAt, toDs, toD, ↓ops_cons, ↓ops_consz, fzTs, fzLs, rg, rd, o, oz, kc, kb, ks, kx, on, og, od, ogd, A.run, evI, evOpt, evs, evP, argF, V.cs, binD, fzV, fzL, fzVs, dataVs, dataLs, V.data, L.data, unD, fillL, List.take_succ_cons, List.take_zero, List.drop_succ_cons, List.drop_zero, List.cons_append, ne_eq, Nat.reduceLT, Nat.reduceBEq, ↓reduceIte, Nat.reduceEqDiff, Nat.reduceAdd, Nat.reduceMul, Nat.reduceSub, Int.reduceToNat, Nat.reduceLeDiff, Int.reduceNeg, Int.reduceEq, Int.reduceLT, Int.reduceLE, Int.reduceBEq, Int.reduceBNe, Int.reduceToNat]; exact rfl) (by rfl) (by rfl) (by rfl))
  · rw [wrH_pos l bs i (by omega), List.take_of_length_le h2]
    generalize bs ++ numsB l = q at hZ ⊢
    (simp (disch := first | decide | omega | (intros; exact Eq.trans rfl rfl) | (simp only [puri]; done)) only [a19_0, vis, visL, visB, fillR, rowsAt, toDs, toD, ↓ops_cons, ↓ops_consz, fzTs, fzLs, rg, rd, o, oz, kc, kb, ks, kx, on, og, od, ogd, A.run, evI, evOpt, evs, evP, argF, V.cs, binD, fzV, fzL, fzVs, dataVs, dataLs, V.data, L.data, unD, fillL, List.take_succ_cons, List.take_zero, List.drop_succ_cons, List.drop_zero, List.cons_append, ne_eq, Nat.reduceLT, Nat.reduceBEq, ↓reduceIte, Nat.reduceEqDiff, Nat.reduceAdd, Nat.reduceMul, Nat.reduceSub, Int.reduceToNat, Nat.reduceLeDiff, Int.reduceNeg, Int.reduceEq, Int.reduceLT, Int.reduceLE, Int.reduceBEq, Int.reduceBNe, Int.reduceToNat, dis])
    rw [hZ]
    simp [trim, V.refs, L.refs, Box.refs]
set_option maxRecDepth 8000 in
theorem numbers_first (l : List Int) (hl : 0 < l.length ∧ l.length ≤ 100) (h : ∀ n ∈ l, natI n) :
    call 19 [.one (.p 0 0), .one (.sl 1 1 0 l.length)] [.cells [.ns], .arr 1 (l.map encI) 0] = some (.tup [], [.cells [.sl 2 1 0 (numsB l).length], .arr 1 (l.map encI) 0, .arr 1 (rowsOfBytes (numsB l)) 0]) := by
  apply enterS s19 rfl
  obtain ⟨Z, hZ⟩ : ∃ Z : V × Hp, Z = ((.tup [], [.cells [.sl 2 1 0 (numsB l).length], .arr 1 (l.map encI) 0, .arr 1 (rowsOfBytes (numsB l)) 0]) : V × Hp) := ⟨_, rfl⟩
  rw [← hZ]
  (simp (disch := first | decide | omega | (intros; exact Eq.trans rfl rfl) | (simp only [puri]; done)) only [a19, vis, visL, visB, fillR, rowsAt, toDs, toD, ↓ops_cons, ↓ops_consz, fzTs, fzLs, rg, rd, o, oz, kc, kb, ks, kx, on, og, od, ogd, A.run, evI, evOpt, evs, evP, argF, V.cs, binD, fzV, fzL, fzVs, dataVs, dataLs, V.data, L.data, unD, fillL, List.take_succ_cons, List.take_zero, List.drop_succ_cons, List.drop_zero, List.cons_append, ne_eq, Nat.reduceLT, Nat.reduceBEq, ↓reduceIte, Nat.reduceEqDiff, Nat.reduceAdd, Nat.reduceMul, Nat.reduceSub, Int.reduceToNat, Nat.reduceLeDiff, Int.reduceNeg, Int.reduceEq, Int.reduceLT, Int.reduceLE, Int.reduceBEq, Int.reduceBNe, Int.reduceToNat, dis])
  refine loop_boxM (m := 2) (σ := Nat) (fun i => l.length - i) (fun i => i ≤ l.length) (fun i => [V.one (.p 0 0), V.one (.sl 1 1 0 l.length), vi l.length, vi i]) (fun i => wrN l i) (fun _ => Z) ?_ 0 (Nat.zero_le _) _ _ ?_
  rotate_left
  · exact (at_headM (by decide) (by simp only [List.map_cons, List.map_nil, vis, visL, visB, fillR, rowsAt, toDs, toD, ↓ops_cons, ↓ops_consz, fzTs, fzLs, rg, rd, o, oz, kc, kb, ks, kx, on, og, od, ogd, A.run, evI, evOpt, evs, evP, argF, V.cs, binD, fzV, fzL, fzVs, dataVs, dataLs, V.data, L.data, unD, fillL, List.take_succ_cons, List.take_zero, List.drop_succ_cons, List.drop_zero, List.cons_append, ne_eq, Nat.reduceLT, Nat.reduceBEq, ↓reduceIte, Nat.reduceEqDiff, Nat.reduceAdd, Nat.reduceMul, Nat.reduceSub, Int.reduceToNat, Nat.reduceLeDiff, Int.reduceNeg, Int.reduceEq, Int.reduceLT, Int.reduceLE, Int.reduceBEq, Int.reduceBNe, Int.reduceToNat]; exact rfl) (by rfl) (by rfl) (by rfl))
  intro i hi R hR
  have hle := numsB_le l h i hi
  rcases Nat.lt_or_ge i l.length with h2 | h2
  · have g1 : (l.map encI)[i]? = some (encI l[i]) := by simp [h2]
    have hp := putI (h _ (List.getElem_mem h2))
    have h9 := enc128_le9 (n := l[i].toNat) (by have := h l[i] (List.getElem_mem h2); unfold natI at this; omega)
    have hR' := hR (i + 1) (by omega) (by omega)
    rw [wrN_pos l (i + 1) (by omega), numsB_succ l i h2] at hR'
    rcases i with _ | i
    · simp only [wrN]
      simp only [List.take_zero, show numsB [] = [] from rfl, List.nil_append] at hR'
      (simp (disch := first | decide | omega | (intros; exact Eq.trans rfl rfl) | (simp only [puri]; done)) only [a19_0, g1, encI_len, encI_at, hp, rowsOfBytes_len, okRows_bytes, rows_app, vis, visL, visB, fillR, rowsAt, toDs, toD, ↓ops_cons, ↓ops_consz, fzTs, fzLs, rg, rd, o, oz, kc, kb, ks, kx, on, og, od, ogd, A.run, evI, evOpt, evs, evP, argF, V.cs, binD, fzV, fzL, fzVs, dataVs, dataLs, V.data, L.data, unD, fillL, List.take_succ_cons, List.take_zero, List.drop_succ_cons, List.drop_zero, List.cons_append, ne_eq, Nat.reduceLT, Nat.reduceBEq, ↓reduceIte, Nat.reduceEqDiff, Nat.reduceAdd, Nat.reduceMul, Nat.reduceSub, Int.reduceToNat, Nat.reduceLeDiff, Int.reduceNeg, Int.reduceEq, Int.reduceLT, Int.reduceLE, Int.reduceBEq, Int.reduceBNe, Int.reduceToNat, dis])
      exact hR' _ _ (at_headM (by decide) (by simp only [List.map_cons, List.map_nil, vis, visL, visB, fillR, rowsAt, toDs, toD, ↓ops_cons, ↓ops_consz, fzTs, fzLs, rg, rd, o, oz, kc, kb, ks, kx, on, og, od, ogd, A.run, evI, evOpt, evs, evP, argF, V.cs, binD, fzV, fzL, fzVs, dataVs, dataLs, V.data, L.data, unD, fillL, List.take_succ_cons, List.take_zero, List.drop_succ_cons, List.drop_zero, List.cons_append, ne_eq, Nat.reduceLT, Nat.reduceBEq, ↓reduceIte, Nat.reduceEqDiff, Nat.reduceAdd, Nat.reduceMul, Nat.reduceSub, Int.reduceToNat, Nat.reduceLeDiff, Int.reduceNeg, Int.reduceEq, Int.reduceLT, Int.reduceLE, Int.reduceBEq, Int.reduceBNe, Int.reduceToNat]; exact rfl) (by rfl) (by rfl) (by rfl))
    · rw [wrN_pos l (i + 1) (by omega)]
      generalize numsB (l.take (i + 1)) = q at hR' hle ⊢
      simp only [List.length_append] at hR'
      (simp (disch := first | decide | omega | (intros; exact Eq.trans rfl rfl) | (simp only [puri]; done)) only [a19_0, g1, encI_len, encI_at, hp, rowsOfBytes_len, okRows_bytes, rows_app, vis, visL, visB, fillR, rowsAt, toDs, toD, ↓ops_cons, ↓ops_consz, fzTs, fzLs, rg, rd, o, oz, kc, kb, ks, kx, on, og, od, ogd, A.run, evI, evOpt, evs, evP, argF, V.cs, binD, fzV, fzL, fzVs, dataVs, dataLs, V.data, L.data, unD, fillL, List.take_succ_cons, List.take_zero, List.drop_succ_cons, List.drop_zero, List.cons_append, ne_eq, Nat.reduceLT, Nat.reduceBEq, ↓reduceIte, Nat.reduceEqDiff, Nat.reduceAdd, Nat.reduceMul, Nat.reduceSub, Int.reduceToNat, Nat.reduceLeDiff, Int.reduceNeg, Int.reduceEq, Int.reduceLT, Int.reduceLE, Int.reduceBEq, Int.reduceBNe, Int.reduceToNat, dis])
      exact hR' _ _ (at_headM (by decide) (by simp only [List.map_cons, List.map_nil, vis, visL, visB, fillR, rowsAt, toDs, toD, ↓ops_cons, ↓ops_consz, fzTs, fzLs, rg, rd, o, oz, kc, kb, ks, kx, on, og, od, ogd, A.run, evI, evOpt, evs, evP, argF, V.cs, binD, fzV, fzL, fzVs, dataVs, dataLs, V.data, L.data, unD, fillL, List.take_succ_cons, List.take_zero, List.drop_succ_cons, List.drop_zero, List.cons_append, ne_eq, Nat.reduceLT, Nat.reduceBEq, ↓reduceIte, Nat.reduceEqDiff, Nat.reduceAdd, Nat.reduceMul, Nat.reduceSub, Int.reduceToNat, Nat.reduceLeDiff, Int.reduceNeg, Int.reduceEq, Int.reduceLT, Int.reduceLE, Int.reduceBEq, Int.reduceBNe, Int.reduceToNat]; exact rfl) (by rfl) (by rfl) (by rfl))
  · rw [wrN_pos l i (by omega), List.take_of_length_le h2]
    generalize numsB l = q at hZ ⊢
    (simp (disch := first | decide | omega | (intros; exact Eq.trans rfl rfl) | (simp only [puri]; done)) only [a19_0, vis, visL, visB, fillR, rowsAt, toDs, toD, ↓ops_cons, ↓ops_consz, fzTs, fzLs, rg, rd, o, oz, kc, kb, ks, kx, on, og, od, ogd, A.run, evI, evOpt, evs, evP, argF, V.cs, binD, fzV, fzL, fzVs, dataVs, dataLs, V.data, L.data, unD, fillL, List.take_succ_cons, List.take_zero, List.drop_succ_cons, List.drop_zero, List.cons_append, ne_eq, Nat.reduceLT, Nat.reduceBEq, ↓reduceIte, Nat.reduceEqDiff, Nat.reduceAdd, Nat.reduceMul, Nat.reduceSub, Int.reduceToNat, Nat.reduceLeDiff, Int.reduceNeg, Int.reduceEq, Int.reduceLT, Int.reduceLE, Int.reduceBEq, Int.reduceBNe, Int.reduceToNat, dis])
    rw [hZ]
    simp [trim, V.refs, L.refs, Box.refs]
set_option maxRecDepth 8000 in
theorem text_spec (t bs : List UInt8) (hb : bs.length ≤ 1000000) (ht : t.length ≤ 1000000) :
    call 20 [.one (.p 0 0), vs t] [.cells [.sl 1 1 0 bs.length], .arr 1 (rowsOfBytes bs) 0] = some (.tup [], [.cells [.sl 2 1 0 (bs ++ t).length], .dead, .arr 1 (rowsOfBytes (bs ++ t)) 0]) := by
  apply enterS s20 rfl
  (simp (disch := first | decide | omega | (intros; exact Eq.trans rfl rfl) | (simp only [puri]; done)) only [a20, rowsOfBytes_len, okRows_bytes, rows_app, vis, visL, visB, fillR, rowsAt, toDs, toD, ↓ops_cons, ↓ops_consz, fzTs, fzLs, rg, rd, o, oz, kc, kb, ks, kx, on, og, od, ogd, A.run, evI, evOpt, evs, evP, argF, V.cs, binD, fzV, fzL, fzVs, dataVs, dataLs, V.data, L.data, unD, fillL, List.take_succ_cons, List.take_zero, List.drop_succ_cons, List.drop_zero, List.cons_append, ne_eq, Nat.reduceLT, Nat.reduceBEq, ↓reduceIte, Nat.reduceEqDiff, Nat.reduceAdd, Nat.reduceMul, Nat.reduceSub, Int.reduceToNat, Nat.reduceLeDiff, Int.reduceNeg, Int.reduceEq, Int.reduceLT, Int.reduceLE, Int.reduceBEq, Int.reduceBNe, Int.reduceToNat, dis])
  simp [trim, V.refs, L.refs, Box.refs]
end Go.Proofs.Ytogleebbifpijaa
