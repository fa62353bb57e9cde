import Derived.Test.YtoehimghaanjfaaK03
set_option linter.unusedSimpArgs false
set_option linter.unusedVariables false
namespace Go.Proofs.Ytoehimghaanjfaa
open Go.Vi
set_option linter.unusedSimpArgs false

theorem erase_idx (p : Alarm → Bool) (q : List Alarm) : q.eraseP p = match q.findIdx? p with | some i => q.take i ++ q.drop (i + 1) | none => q := by
  cases h : q.findIdx? p with
  | none =>
    rw [List.findIdx?_eq_none_iff] at h
    simp only
    exact List.eraseP_of_forall_not fun a ha => by simp [h a ha]
  | some i =>
    simp only
    rw [List.eraseP_eq_eraseIdx, h]
    simp only
    exact List.eraseIdx_eq_take_drop_succ ..
theorem cancel_spec (now id : Int) (q : List Alarm) (hq : q.length ≤ 1000000) : call 9 [wh now q, vi id] [] = some (wh now (q.eraseP (isId id)), []) := by
  apply enterS s9 rfl
  have f1 := find_spec now id q (by omega)
  rw [erase_idx]
  cases h : q.findIdx? (isId id) with
  | none =>
    simp only [idxF, List.drop_zero, h] at f1
    (simp (disch := first | decide | omega | (intros; exact Eq.trans rfl rfl) | (simp only [puri]; done)) only [a9, f1, vis, visL, visB, fillR, rowsAt, toDs, toD, ↓ops_cons, ↓ops_consz, fzTs, fzLs, rg, rd, o, oz, kc, kb, ks, kx, on, og, od, ogd, A.run, evI, evOpt, evs, evP, argF, V.cs, binD, fzV, fzL, fzVs, dataVs, dataLs, V.data, L.data, unD, fillL, List.take_succ_cons, List.take_zero, List.drop_succ_cons, List.drop_zero, List.cons_append, ne_eq, Nat.reduceLT, Nat.reduceBEq, ↓reduceIte, Nat.reduceEqDiff, Nat.reduceAdd, Nat.reduceMul, Nat.reduceSub, Int.reduceToNat, Nat.reduceLeDiff, Int.reduceNeg, Int.reduceEq, Int.reduceLT, Int.reduceLE, Int.reduceBEq, Int.reduceBNe, Int.reduceToNat, dis])
  | some i =>
    simp only [idxF, List.drop_zero, h] at f1
    have z0 : (((0 : Nat) : Int) + (i : Int)) = (i : Int) := by omega
    rw [z0] at f1
    have hi : i < q.length := (List.findIdx?_eq_some_iff_getElem.1 h).1
    have t1 : ((i : Int) + 1).toNat = i + 1 := by omega
    have e1 : List.take (i : Int).toNat (List.map Alarm.enc q) = List.map Alarm.enc (List.take i q) := by simp
    have l1 : (q.take i).length = i := by rw [List.length_take]; omega
    have l2 : (q.drop (i + 1)).length = q.length - (i + 1) := List.length_drop ..
    (simp (disch := first | decide | omega | (intros; exact Eq.trans rfl rfl) | (simp only [puri]; done)) only [a9, f1, ← List.map_take, ← List.map_drop, Alarm.len, l1, l2, vis, visL, visB, fillR, rowsAt, toDs, toD, ↓ops_cons, ↓ops_consz, fzTs, fzLs, rg, rd, o, oz, kc, kb, ks, kx, on, og, od, ogd, A.run, evI, evOpt, evs, evP, argF, V.cs, binD, fzV, fzL, fzVs, dataVs, dataLs, V.data, L.data, unD, fillL, List.take_succ_cons, List.take_zero, List.drop_succ_cons, List.drop_zero, List.cons_append, ne_eq, Nat.reduceLT, Nat.reduceBEq, ↓reduceIte, Nat.reduceEqDiff, Nat.reduceAdd, Nat.reduceMul, Nat.reduceSub, Int.reduceToNat, Nat.reduceLeDiff, Int.reduceNeg, Int.reduceEq, Int.reduceLT, Int.reduceLE, Int.reduceBEq, Int.reduceBNe, Int.reduceToNat, dis])
    simp only [wh, List.map_append]
abbrev encI (a : Alarm) : List D := [.i .i64 a.id]
def due (t : Int) (a : Alarm) : Bool := decide (a.at_ ≤ t)
theorem tick_spec (now : Int) (q : List Alarm) (hn : 0 ≤ now ∧ now < 1000000) (hq : q.length ≤ 1000000) : call 11 [wh now q] [] = some (.tup [(true, [.d (.i .i64 (now + 1)), .d (.l ((q.dropWhile (due (now + 1))).map Alarm.enc))]), (false, [.d (.l ((q.takeWhile (due (now + 1))).map encI))])], []) := by
  apply enterS s11 rfl
  (simp (disch := first | decide | omega | (intros; exact Eq.trans rfl rfl) | (simp only [puri]; done)) only [a11, vis, visL, visB, fillR, rowsAt, toDs, toD, ↓ops_cons, ↓ops_consz, fzTs, fzLs, rg, rd, o, oz, kc, kb, ks, kx, on, og, od, ogd, A.run, evI, evOpt, evs, evP, argF, V.cs, binD, fzV, fzL, fzVs, dataVs, dataLs, V.data, L.data, unD, fillL, List.take_succ_cons, List.take_zero, List.drop_succ_cons, List.drop_zero, List.cons_append, ne_eq, Nat.reduceLT, Nat.reduceBEq, ↓reduceIte, Nat.reduceEqDiff, Nat.reduceAdd, Nat.reduceMul, Nat.reduceSub, Int.reduceToNat, Nat.reduceLeDiff, Int.reduceNeg, Int.reduceEq, Int.reduceLT, Int.reduceLE, Int.reduceBEq, Int.reduceBNe, Int.reduceToNat, dis])
  refine loop_box (σ := Nat) (fun k => q.length - k) (fun k => k ≤ q.length ∧ q.takeWhile (due (now + 1)) = q.take k ++ (q.drop k).takeWhile (due (now + 1)) ∧ q.dropWhile (due (now + 1)) = (q.drop k).dropWhile (due (now + 1))) (fun k => [.one (.p 0 0), .one (.p 1 0), .one (.sl 2 1 0 (q.take k).length)]) (fun k => ([.cells [.d (.i .i64 (now + 1)), .d (.l ((q.drop k).map Alarm.enc))], .cells [.d (.i .i64 0), .ns], .arr 1 ((q.take k).map encI) 0] : Hp)) (fun k => (V.tup [(true, [.d (.i .i64 (now + 1)), .d (.l ((q.dropWhile (due (now + 1))).map Alarm.enc))]), (false, [.d (.l ((q.takeWhile (due (now + 1))).map encI))])], ([] : Hp))) ?_ 0 ?_ _ _ (at_headM (by decide) (by simp only [List.map_cons, List.map_nil, vis, visL, visB, fillR, rowsAt, toDs, toD, ↓ops_cons, ↓ops_consz, fzTs, fzLs, rg, rd, o, oz, kc, kb, ks, kx, on, og, od, ogd, A.run, evI, evOpt, evs, evP, argF, V.cs, binD, fzV, fzL, fzVs, dataVs, dataLs, V.data, L.data, unD, fillL, List.take_succ_cons, List.take_zero, List.drop_succ_cons, List.drop_zero, List.cons_append, ne_eq, Nat.reduceLT, Nat.reduceBEq, ↓reduceIte, Nat.reduceEqDiff, Nat.reduceAdd, Nat.reduceMul, Nat.reduceSub, Int.reduceToNat, Nat.reduceLeDiff, Int.reduceNeg, Int.reduceEq, Int.reduceLT, Int.reduceLE, Int.reduceBEq, Int.reduceBNe, Int.reduceToNat]; exact rfl) (by rfl) (by rfl) (by rfl))
  rotate_left
  · exact ⟨Nat.zero_le _, by simp, by simp⟩
  intro k hk R hR
  obtain ⟨hk, h1, h2⟩ := hk
  rcases Nat.lt_or_ge k q.length with h | h
  · have hd := List.drop_eq_getElem_cons h
    have md : List.drop (Int.toNat 1) (List.map Alarm.enc (List.drop k q)) = List.map Alarm.enc (List.drop (k + 1) q) := by
      rw [← List.map_drop, List.drop_drop]; rfl
    have tl : (q.take k).length = k := by rw [List.length_take]; omega
    have ht := take_succ_get q k h
    have mt : List.take k (List.map encI (List.take k q)) = List.map encI (List.take k q) := List.take_of_length_le (by simp; omega)
    cases d : due (now + 1) q[k] with
    | true =>
      have d' : q[k].at_ ≤ now + 1 := by simpa [due] using d
      rw [hd, List.takeWhile_cons_of_pos d] at h1
      rw [hd, List.dropWhile_cons_of_pos d] at h2
      rw [hd] at md ⊢
      (simp (disch := first | decide | omega | (intros; exact Eq.trans rfl rfl) | (simp only [puri]; done)) only [a11_0, Alarm.len, Alarm.at0, Alarm.at1, Alarm.tk, d', tl, md, vis, visL, visB, fillR, rowsAt, toDs, toD, ↓ops_cons, ↓ops_consz, fzTs, fzLs, rg, rd, o, oz, kc, kb, ks, kx, on, og, od, ogd, A.run, evI, evOpt, evs, evP, argF, V.cs, binD, fzV, fzL, fzVs, dataVs, dataLs, V.data, L.data, unD, fillL, List.take_succ_cons, List.take_zero, List.drop_succ_cons, List.drop_zero, List.cons_append, ne_eq, Nat.reduceLT, Nat.reduceBEq, ↓reduceIte, Nat.reduceEqDiff, Nat.reduceAdd, Nat.reduceMul, Nat.reduceSub, Int.reduceToNat, Nat.reduceLeDiff, Int.reduceNeg, Int.reduceEq, Int.reduceLT, Int.reduceLE, Int.reduceBEq, Int.reduceBNe, Int.reduceToNat, dis])
      have hR' := hR (k + 1) (by first | omega | (simp only []; omega)) ⟨by omega, by rw [h1, ht, List.append_assoc]; rfl, h2⟩; simp only [ht, tl, List.length_append, List.length_cons, List.length_nil, Nat.zero_add, List.map_append, List.map_cons, List.map_nil] at hR'; exact hR' _ _ (at_headM (by decide) (by simp only [List.map_cons, List.map_nil, vis, visL, visB, fillR, rowsAt, toDs, toD, ↓ops_cons, ↓ops_consz, fzTs, fzLs, rg, rd, o, oz, kc, kb, ks, kx, on, og, od, ogd, A.run, evI, evOpt, evs, evP, argF, V.cs, binD, fzV, fzL, fzVs, dataVs, dataLs, V.data, L.data, unD, fillL, List.take_succ_cons, List.take_zero, List.drop_succ_cons, List.drop_zero, List.cons_append, ne_eq, Nat.reduceLT, Nat.reduceBEq, ↓reduceIte, Nat.reduceEqDiff, Nat.reduceAdd, Nat.reduceMul, Nat.reduceSub, Int.reduceToNat, Nat.reduceLeDiff, Int.reduceNeg, Int.reduceEq, Int.reduceLT, Int.reduceLE, Int.reduceBEq, Int.reduceBNe, Int.reduceToNat]; exact rfl) (by rfl) (by rfl) (by rfl))
    | false =>
      have d' : ¬ q[k].at_ ≤ now + 1 := by simpa [due] using d
      rw [hd, List.takeWhile_cons_of_neg (by simp [d]), List.append_nil] at h1
      rw [hd, List.dropWhile_cons_of_neg (by simp [d])] at h2
      rw [h1, h2, hd]
      (simp (disch := first | decide | omega | (intros; exact Eq.trans rfl rfl) | (simp only [puri]; done)) only [a11_0, Alarm.len, Alarm.at0, Alarm.at1, Alarm.tk, d', tl, mt, vis, visL, visB, fillR, rowsAt, toDs, toD, ↓ops_cons, ↓ops_consz, fzTs, fzLs, rg, rd, o, oz, kc, kb, ks, kx, on, og, od, ogd, A.run, evI, evOpt, evs, evP, argF, V.cs, binD, fzV, fzL, fzVs, dataVs, dataLs, V.data, L.data, unD, fillL, List.take_succ_cons, List.take_zero, List.drop_succ_cons, List.drop_zero, List.cons_append, ne_eq, Nat.reduceLT, Nat.reduceBEq, ↓reduceIte, Nat.reduceEqDiff, Nat.reduceAdd, Nat.reduceMul, Nat.reduceSub, Int.reduceToNat, Nat.reduceLeDiff, Int.reduceNeg, Int.reduceEq, Int.reduceLT, Int.reduceLE, Int.reduceBEq, Int.reduceBNe, Int.reduceToNat, dis])
  · have mt : List.take (q.take k).length (List.map encI (List.take k q)) = List.map encI (List.take k q) := List.take_of_length_le (by simp)
    rw [List.drop_eq_nil_of_le h] at h1 h2 ⊢
    rw [h1, h2]
    (simp (disch := first | decide | omega | (intros; exact Eq.trans rfl rfl) | (simp only [puri]; done)) only [a11_0, List.takeWhile_nil, List.dropWhile_nil, mt, vis, visL, visB, fillR, rowsAt, toDs, toD, ↓ops_cons, ↓ops_consz, fzTs, fzLs, rg, rd, o, oz, kc, kb, ks, kx, on, og, od, ogd, A.run, evI, evOpt, evs, evP, argF, V.cs, binD, fzV, fzL, fzVs, dataVs, dataLs, V.data, L.data, unD, fillL, List.take_succ_cons, List.take_zero, List.drop_succ_cons, List.drop_zero, List.cons_append, ne_eq, Nat.reduceLT, Nat.reduceBEq, ↓reduceIte, Nat.reduceEqDiff, Nat.reduceAdd, Nat.reduceMul, Nat.reduceSub, Int.reduceToNat, Nat.reduceLeDiff, Int.reduceNeg, Int.reduceEq, Int.reduceLT, Int.reduceLE, Int.reduceBEq, Int.reduceBNe, Int.reduceToNat, dis])
end Go.Proofs.Ytoehimghaanjfaa
