import Derived.Test.YtgcamaneelgejaaF12
set_option linter.unusedSimpArgs false
set_option linter.unusedVariables false
namespace Go.Proofs.Ytgcamaneelgejaa
open Go.Vi
set_option linter.unusedSimpArgs false

theorem goodB_fits {b : List UInt8} (h : goodB b = true) : fitsB b := by
  simp only [goodB, Bool.and_eq_true, decide_eq_true_eq] at h
  exact ⟨h.1, by omega⟩
theorem row_ge : ∀ l : List (List UInt8), l.length ≤ (rowF l).length
  | [] => by simp [rowF]
  | b :: l => by
    have ih := row_ge l
    have hp := frame_pos b
    have e : rowF (b :: l) = frameF b ++ rowF l := rfl
    rw [e, List.length_append]
    simp only [List.length_cons]; omega
theorem all_row (l : List (List UInt8)) (hg : l.all goodB = true) : allF ((rowF l).length + 1 - 0) (rowF l) 0 = (l, (rowF l).length, 0) := by
  have h := allF_row l [] [] ((rowF l).length + 1) (fun b hb => goodB_fits ((List.all_eq_true.1 hg) b hb)) (by have := row_ge l; omega)
  simp only [List.nil_append, List.append_nil, List.length_nil, Nat.zero_add] at h
  rw [Nat.sub_zero, h, allF_end (Nat.le_refl _)]
  simp
theorem row_at (l : List (List UInt8)) (i : Nat) (h : i < l.length) : rowF l = rowF (l.take i) ++ (frameF l[i] ++ rowF (l.drop (i + 1))) := by
  conv => lhs; rw [← List.take_append_drop i l, List.drop_eq_getElem_cons h]
  simp only [rowF, List.flatMap_append, List.flatMap_cons]
theorem next_row (l : List (List UInt8)) (hg : l.all goodB = true) (i : Nat) (h : i < l.length) : nextF (rowF l) (endN l i) = (l[i], endN l (i + 1), 0) := by
  have hb := goodB_fits ((List.all_eq_true.1 hg) l[i] (List.getElem_mem h))
  have := nextF_frame (rowF (l.take i)) l[i] (rowF (l.drop (i + 1))) hb.1 hb.2
  rw [← row_at l i h] at this
  rw [endN_succ l i h]
  exact this

set_option maxRecDepth 8000 in
theorem frameBack_law1 (l : List (List UInt8)) (hl : l.length ≤ 9223372036854775807) (hs : ∀ b ∈ l, b.length ≤ 9223372036854775807) : call 6 [vl (l.map encS)] [] = some (vb true, []) := by
  apply enterS s6 rfl
  have haw := awake_spec
  have hr := row_spec l hl hs
  unfold rowV at hr
  by_cases c : l.length ≤ 20 ∧ l.all goodB = true
  · rw [if_pos c] at hr
    have hn : (rowF l).length ≤ 309 * l.length := by
      have := endN_le l c.2 l.length (Nat.le_refl _)
      unfold endN at this
      rwa [List.take_of_length_le (Nat.le_refl _)] at this
    have ha := all_spec (rowF l) (by omega)
    rw [all_row l c.2] at ha
    have hsm := same_spec l l hl
    rw [decide_eq_true rfl] at hsm
    (simp (disch := first | decide | omega | (intros; exact Eq.trans rfl rfl) | (simp only [puri]; done)) only [a6, hr, ha, hsm, allV, vis, visL, visB, fillR, rowsAt, toDs, toD, ↓ops_cons, ↓ops_consz, fzTs, fzLs, rg, rd, o, oz, kc, kb, ks, kx, on, og, od, ogd, A.run, evI, evOpt, evs, evP, argF, V.cs, binD, fzV, fzL, fzVs, dataVs, dataLs, V.data, L.data, unD, fillL, List.take_succ_cons, List.take_zero, List.drop_succ_cons, List.drop_zero, List.cons_append, ne_eq, Nat.reduceLT, Nat.reduceBEq, ↓reduceIte, Nat.reduceEqDiff, Nat.reduceAdd, Nat.reduceMul, Nat.reduceSub, Int.reduceToNat, Nat.reduceLeDiff, Int.reduceNeg, Int.reduceEq, Int.reduceLT, Int.reduceLE, Int.reduceBEq, Int.reduceBNe, Int.reduceToNat, dis])
    refine loop_data (σ := Nat) (fun i => l.length - i) (fun i => i ≤ l.length) (fun i => [vl (l.map encS), vs (rowF l), vl ((endsF l l.length).map encN), vi i]) (fun _ => (vb true, ([] : Hp))) (fun _ => by simp only [vis, visL, visB, fillR, rowsAt, toDs, toD, ↓ops_cons, ↓ops_consz, fzTs, fzLs, rg, rd, o, oz, kc, kb, ks, kx, on, og, od, ogd, A.run, evI, evOpt, evs, evP, argF, V.cs, binD, fzV, fzL, fzVs, dataVs, dataLs, V.data, L.data, unD, fillL, List.take_succ_cons, List.take_zero, List.drop_succ_cons, List.drop_zero, List.cons_append, ne_eq, Nat.reduceLT, Nat.reduceBEq, ↓reduceIte, Nat.reduceEqDiff, Nat.reduceAdd, Nat.reduceMul, Nat.reduceSub, Int.reduceToNat, Nat.reduceLeDiff, Int.reduceNeg, Int.reduceEq, Int.reduceLT, Int.reduceLE, Int.reduceBEq, Int.reduceBNe, Int.reduceToNat]) ?_ 0 (Nat.zero_le _) _ (by simp [vis, visL, visB, fillR, rowsAt, toDs, toD, ↓ops_cons, ↓ops_consz, fzTs, fzLs, rg, rd, o, oz, kc, kb, ks, kx, on, og, od, ogd, A.run, evI, evOpt, evs, evP, argF, V.cs, binD, fzV, fzL, fzVs, dataVs, dataLs, V.data, L.data, unD, fillL, List.take_succ_cons, List.take_zero, List.drop_succ_cons, List.drop_zero, List.cons_append, ne_eq, Nat.reduceLT, Nat.reduceBEq, ↓reduceIte, Nat.reduceEqDiff, Nat.reduceAdd, Nat.reduceMul, Nat.reduceSub, Int.reduceToNat, Nat.reduceLeDiff, Int.reduceNeg, Int.reduceEq, Int.reduceLT, Int.reduceLE, Int.reduceBEq, Int.reduceBNe, Int.reduceToNat])
    intro i hi R hR
    rcases Nat.lt_or_ge i l.length with h | h
    · have g1 : ((endsF l l.length).map encN)[i]? = some (encN (endN l i)) := by rw [List.getElem?_map, endsF_get l l.length i (by omega)]; rfl
      have g2 : ((endsF l l.length).map encN)[i + 1]? = some (encN (endN l (i + 1))) := by rw [List.getElem?_map, endsF_get l l.length (i + 1) (by omega)]; rfl
      have b1 := endN_le l c.2 i (by omega)
      have b2 := endN_le l c.2 (i + 1) (by omega)
      have es := endN_succ l i h
      have hnx := next_spec (rowF l) (endN l i) (by omega) (by omega)
      rw [next_row l c.2 i h] at hnx
      have hb := (List.all_eq_true.1 c.2) l[i] (List.getElem_mem h)
      simp only [goodB, Bool.and_eq_true, decide_eq_true_eq] at hb
      have hz := size_spec (l[i].length : Int)
      have hsz : sizeF (l[i].length : Int) = (((frameF l[i]).length : Nat) : Int) := by
        unfold sizeF; rw [if_pos (by omega), Int.toNat_natCast, frameF_len]; omega
      rw [hsz] at hz
      have hto : ((i : Int) + 1).toNat = i + 1 := rfl
      have hw : IntKind.i64.wrap (((endN l (i + 1) : Nat) : Int) - ((endN l i : Nat) : Int)) = (((frameF l[i]).length : Nat) : Int) := by rw [wrap_i (by omega)]; omega
      (simp (disch := first | decide | omega | (intros; exact Eq.trans rfl rfl) | (simp only [puri]; done)) only [a6_0, encS_len, encS_at, encN_len, encN_at, g1, g2, hnx, hz, hw, nextV, hto, vis, visL, visB, fillR, rowsAt, toDs, toD, ↓ops_cons, ↓ops_consz, fzTs, fzLs, rg, rd, o, oz, kc, kb, ks, kx, on, og, od, ogd, A.run, evI, evOpt, evs, evP, argF, V.cs, binD, fzV, fzL, fzVs, dataVs, dataLs, V.data, L.data, unD, fillL, List.take_succ_cons, List.take_zero, List.drop_succ_cons, List.drop_zero, List.cons_append, ne_eq, Nat.reduceLT, Nat.reduceBEq, ↓reduceIte, Nat.reduceEqDiff, Nat.reduceAdd, Nat.reduceMul, Nat.reduceSub, Int.reduceToNat, Nat.reduceLeDiff, Int.reduceNeg, Int.reduceEq, Int.reduceLT, Int.reduceLE, Int.reduceBEq, Int.reduceBNe, Int.reduceToNat, dis])
      exact hR (i + 1) (by first | omega | (simp only []; omega)) (by first | omega | (simp only []; omega)) _ (by simp [vis, visL, visB, fillR, rowsAt, toDs, toD, ↓ops_cons, ↓ops_consz, fzTs, fzLs, rg, rd, o, oz, kc, kb, ks, kx, on, og, od, ogd, A.run, evI, evOpt, evs, evP, argF, V.cs, binD, fzV, fzL, fzVs, dataVs, dataLs, V.data, L.data, unD, fillL, List.take_succ_cons, List.take_zero, List.drop_succ_cons, List.drop_zero, List.cons_append, ne_eq, Nat.reduceLT, Nat.reduceBEq, ↓reduceIte, Nat.reduceEqDiff, Nat.reduceAdd, Nat.reduceMul, Nat.reduceSub, Int.reduceToNat, Nat.reduceLeDiff, Int.reduceNeg, Int.reduceEq, Int.reduceLT, Int.reduceLE, Int.reduceBEq, Int.reduceBNe, Int.reduceToNat])
    · (simp (disch := first | decide | omega | (intros; exact Eq.trans rfl rfl) | (simp only [puri]; done)) only [a6_0, haw, vis, visL, visB, fillR, rowsAt, toDs, toD, ↓ops_cons, ↓ops_consz, fzTs, fzLs, rg, rd, o, oz, kc, kb, ks, kx, on, og, od, ogd, A.run, evI, evOpt, evs, evP, argF, V.cs, binD, fzV, fzL, fzVs, dataVs, dataLs, V.data, L.data, unD, fillL, List.take_succ_cons, List.take_zero, List.drop_succ_cons, List.drop_zero, List.cons_append, ne_eq, Nat.reduceLT, Nat.reduceBEq, ↓reduceIte, Nat.reduceEqDiff, Nat.reduceAdd, Nat.reduceMul, Nat.reduceSub, Int.reduceToNat, Nat.reduceLeDiff, Int.reduceNeg, Int.reduceEq, Int.reduceLT, Int.reduceLE, Int.reduceBEq, Int.reduceBNe, Int.reduceToNat, dis])
  · rw [if_neg c] at hr
    (simp (disch := first | decide | omega | (intros; exact Eq.trans rfl rfl) | (simp only [puri]; done)) only [a6, hr, haw, vis, visL, visB, fillR, rowsAt, toDs, toD, ↓ops_cons, ↓ops_consz, fzTs, fzLs, rg, rd, o, oz, kc, kb, ks, kx, on, og, od, ogd, A.run, evI, evOpt, evs, evP, argF, V.cs, binD, fzV, fzL, fzVs, dataVs, dataLs, V.data, L.data, unD, fillL, List.take_succ_cons, List.take_zero, List.drop_succ_cons, List.drop_zero, List.cons_append, ne_eq, Nat.reduceLT, Nat.reduceBEq, ↓reduceIte, Nat.reduceEqDiff, Nat.reduceAdd, Nat.reduceMul, Nat.reduceSub, Int.reduceToNat, Nat.reduceLeDiff, Int.reduceNeg, Int.reduceEq, Int.reduceLT, Int.reduceLE, Int.reduceBEq, Int.reduceBNe, Int.reduceToNat, dis])

theorem all_cut (l : List (List UInt8)) (hg : l.all goodB = true) (w n : Nat) (hw : w ≤ l.length) (h1 : endN l w ≤ n) (h2 : w = l.length → n ≤ endN l w) (h3 : w < l.length → n < endN l (w + 1)) :
    allF (((rowF l).take n).length + 1 - 0) ((rowF l).take n) 0 = (l.take w, endN l w, if endN l w = n then 0 else 2) := by
  have hfit : ∀ b ∈ l.take w, fitsB b := fun b hb => goodB_fits ((List.all_eq_true.1 hg) b (List.mem_of_mem_take hb))
  have hge := row_ge (l.take w)
  have hwl : (l.take w).length = w := by simp; omega
  have hrow : (rowF (l.take w)).length = endN l w := rfl
  -- what is left
  obtain ⟨q, hq, hcase⟩ : ∃ q, (rowF l).take n = rowF (l.take w) ++ q ∧ ((q = [] ∧ endN l w = n) ∨ (∃ (h : w < l.length) (m : Nat), q = (frameF l[w]).take m ∧ 0 < m ∧ m < (frameF l[w]).length ∧ endN l w + m = n)) := by
    rcases Nat.lt_or_ge w l.length with h | h
    · have hes := endN_succ l w h
      have hlt := h3 h
      have hx : (rowF l).take n = rowF (l.take w) ++ (frameF l[w]).take (n - endN l w) := by
        rw [row_at l w h, List.take_append, hrow, List.take_of_length_le (by rw [hrow]; exact h1), List.take_append_of_le_length (by omega)]
      by_cases he : endN l w = n
      · refine ⟨[], ?_, .inl ⟨rfl, he⟩⟩
        rw [hx, he, Nat.sub_self]; simp
      · exact ⟨_, hx, .inr ⟨h, n - endN l w, rfl, by omega, by omega, by omega⟩⟩
    · have hwe : w = l.length := by omega
      have := h2 hwe
      refine ⟨[], ?_, .inl ⟨rfl, by omega⟩⟩
      rw [hwe, List.take_of_length_le (Nat.le_refl _), List.append_nil]
      refine List.take_of_length_le ?_
      have e : endN l l.length = (rowF l).length := by unfold endN; rw [List.take_of_length_le (Nat.le_refl _)]
      rw [hwe, e] at h1
      exact h1
  have har := allF_row (l.take w) [] q ((rowF (l.take w) ++ q).length + 1) hfit (by simp; omega)
  simp only [List.nil_append, List.length_nil, Nat.zero_add] at har
  rw [hq, Nat.sub_zero, har, hrow, hwl]
  rcases hcase with ⟨hqe, he⟩ | ⟨h, m, hqe, hm0, hm1, he⟩
  · subst hqe
    rw [allF_end (by rw [List.append_nil, hrow]; exact Nat.le_refl _), if_pos he]
    simp
  · have hb := goodB_fits ((List.all_eq_true.1 hg) l[w] (List.getElem_mem h))
    have hc := nextF_cut (rowF (l.take w)) l[w] m hb.1 hb.2 hm0 hm1
    rw [hrow, ← hqe] at hc
    obtain ⟨f, hf⟩ : ∃ f, (rowF (l.take w) ++ q).length + 1 - w = f + 1 := ⟨(rowF (l.take w) ++ q).length - w, by simp; omega⟩
    have hql : q.length = m := by rw [hqe]; simp; omega
    rw [hf, allF_stop (by rw [List.length_append, hrow]; omega) hc (by decide), if_neg (by omega)]
    simp

set_option maxRecDepth 8000 in
theorem frameCut_law1 (l : List (List UInt8)) (hl : l.length ≤ 9223372036854775807) (hs : ∀ b ∈ l, b.length ≤ 9223372036854775807) (cut : Nat) (hc : cut < 65536) : call 7 [vl (l.map encS), vk .u16 ((cut : Nat) : Int)] [] = some (vb true, []) := by
  apply enterS s7 rfl
  have haw := awake_spec
  have hr := row_spec l hl hs
  unfold rowV at hr
  by_cases c : l.length ≤ 20 ∧ l.all goodB = true
  · rw [if_pos c] at hr
    have erow : endN l l.length = (rowF l).length := by unfold endN; rw [List.take_of_length_le (Nat.le_refl _)]
    have hn : (rowF l).length ≤ 309 * l.length := by rw [← erow]; exact endN_le l c.2 l.length (Nat.le_refl _)
    obtain ⟨n, hnn⟩ : ∃ n, n = cut % ((rowF l).length + 1) := ⟨_, rfl⟩
    have hnl : n < (rowF l).length + 1 := by rw [hnn]; exact Nat.mod_lt _ (by omega)
    have hrem : ((cut : Nat) : Int).tmod (((rowF l).length : Int) + 1) = ((n : Nat) : Int) := by
      rw [Int.tmod_eq_emod_of_nonneg (by omega), hnn]; simp
    have hne : (((rowF l).length : Int) + 1 = 0) = False := by simp; omega
    (simp (disch := first | decide | omega | (intros; exact Eq.trans rfl rfl) | (simp only [puri]; done)) only [a7, hr, hrem, hne, vis, visL, visB, fillR, rowsAt, toDs, toD, ↓ops_cons, ↓ops_consz, fzTs, fzLs, rg, rd, o, oz, kc, kb, ks, kx, on, og, od, ogd, A.run, evI, evOpt, evs, evP, argF, V.cs, binD, fzV, fzL, fzVs, dataVs, dataLs, V.data, L.data, unD, fillL, List.take_succ_cons, List.take_zero, List.drop_succ_cons, List.drop_zero, List.cons_append, ne_eq, Nat.reduceLT, Nat.reduceBEq, ↓reduceIte, Nat.reduceEqDiff, Nat.reduceAdd, Nat.reduceMul, Nat.reduceSub, Int.reduceToNat, Nat.reduceLeDiff, Int.reduceNeg, Int.reduceEq, Int.reduceLT, Int.reduceLE, Int.reduceBEq, Int.reduceBNe, Int.reduceToNat, dis])
    refine loop_data (σ := Nat) (fun w => l.length - w) (fun w => w ≤ l.length ∧ endN l w ≤ n) (fun w => [vl (l.map encS), vs (rowF l), vl ((endsF l l.length).map encN), vi n, vi w]) (fun _ => (vb true, ([] : Hp))) (fun _ => by simp only [vis, visL, visB, fillR, rowsAt, toDs, toD, ↓ops_cons, ↓ops_consz, fzTs, fzLs, rg, rd, o, oz, kc, kb, ks, kx, on, og, od, ogd, A.run, evI, evOpt, evs, evP, argF, V.cs, binD, fzV, fzL, fzVs, dataVs, dataLs, V.data, L.data, unD, fillL, List.take_succ_cons, List.take_zero, List.drop_succ_cons, List.drop_zero, List.cons_append, ne_eq, Nat.reduceLT, Nat.reduceBEq, ↓reduceIte, Nat.reduceEqDiff, Nat.reduceAdd, Nat.reduceMul, Nat.reduceSub, Int.reduceToNat, Nat.reduceLeDiff, Int.reduceNeg, Int.reduceEq, Int.reduceLT, Int.reduceLE, Int.reduceBEq, Int.reduceBNe, Int.reduceToNat]) ?_ 0 ⟨Nat.zero_le _, by simp [endN, rowF]⟩ _ (by simp [vis, visL, visB, fillR, rowsAt, toDs, toD, ↓ops_cons, ↓ops_consz, fzTs, fzLs, rg, rd, o, oz, kc, kb, ks, kx, on, og, od, ogd, A.run, evI, evOpt, evs, evP, argF, V.cs, binD, fzV, fzL, fzVs, dataVs, dataLs, V.data, L.data, unD, fillL, List.take_succ_cons, List.take_zero, List.drop_succ_cons, List.drop_zero, List.cons_append, ne_eq, Nat.reduceLT, Nat.reduceBEq, ↓reduceIte, Nat.reduceEqDiff, Nat.reduceAdd, Nat.reduceMul, Nat.reduceSub, Int.reduceToNat, Nat.reduceLeDiff, Int.reduceNeg, Int.reduceEq, Int.reduceLT, Int.reduceLE, Int.reduceBEq, Int.reduceBNe, Int.reduceToNat])
    rintro w ⟨hw, hew⟩ R hR
    have hel := endsF_len l l.length
    have g1 : ((endsF l l.length).map encN)[w]? = some (encN (endN l w)) := by rw [List.getElem?_map, endsF_get l l.length w (by omega)]; rfl
    have hto : ((w : Int) + 1).toNat = w + 1 := rfl
    -- where the loop ends
    have fin : (w = l.length → n ≤ endN l w) → (w < l.length → n < endN l (w + 1)) → call 15 [vs ((rowF l).take n)] [] = some (allV (l.take w, endN l w, if endN l w = n then 0 else 2), []) := by
      intro f1 f2
      have := all_spec ((rowF l).take n) (by simp; omega)
      rwa [all_cut l c.2 w n hw hew f1 f2] at this
    have hsm := same_spec (l.take w) (l.take w) (by simp; omega)
    rw [decide_eq_true rfl] at hsm
    have hok : okRows 1 (l.map encS) = true := okRows_map encS_len l
    rcases Nat.lt_or_ge w l.length with h | h
    · have g2 : ((endsF l l.length).map encN)[w + 1]? = some (encN (endN l (w + 1))) := by rw [List.getElem?_map, endsF_get l l.length (w + 1) (by omega)]; rfl
      by_cases hle : endN l (w + 1) ≤ n
      · (simp (disch := first | decide | omega | (intros; exact Eq.trans rfl rfl) | (simp only [puri]; done)) only [a7_0, encN_len, encN_at, g1, g2, hto, hel, vis, visL, visB, fillR, rowsAt, toDs, toD, ↓ops_cons, ↓ops_consz, fzTs, fzLs, rg, rd, o, oz, kc, kb, ks, kx, on, og, od, ogd, A.run, evI, evOpt, evs, evP, argF, V.cs, binD, fzV, fzL, fzVs, dataVs, dataLs, V.data, L.data, unD, fillL, List.take_succ_cons, List.take_zero, List.drop_succ_cons, List.drop_zero, List.cons_append, ne_eq, Nat.reduceLT, Nat.reduceBEq, ↓reduceIte, Nat.reduceEqDiff, Nat.reduceAdd, Nat.reduceMul, Nat.reduceSub, Int.reduceToNat, Nat.reduceLeDiff, Int.reduceNeg, Int.reduceEq, Int.reduceLT, Int.reduceLE, Int.reduceBEq, Int.reduceBNe, Int.reduceToNat, dis])
        exact hR (w + 1) (by omega) ⟨by omega, hle⟩ _ (by simp [vis, visL, visB, fillR, rowsAt, toDs, toD, ↓ops_cons, ↓ops_consz, fzTs, fzLs, rg, rd, o, oz, kc, kb, ks, kx, on, og, od, ogd, A.run, evI, evOpt, evs, evP, argF, V.cs, binD, fzV, fzL, fzVs, dataVs, dataLs, V.data, L.data, unD, fillL, List.take_succ_cons, List.take_zero, List.drop_succ_cons, List.drop_zero, List.cons_append, ne_eq, Nat.reduceLT, Nat.reduceBEq, ↓reduceIte, Nat.reduceEqDiff, Nat.reduceAdd, Nat.reduceMul, Nat.reduceSub, Int.reduceToNat, Nat.reduceLeDiff, Int.reduceNeg, Int.reduceEq, Int.reduceLT, Int.reduceLE, Int.reduceBEq, Int.reduceBNe, Int.reduceToNat])
      · have hf := fin (by omega) (by omega)
        by_cases he : endN l w = n
        · rw [if_pos he] at hf
          (simp (disch := first | decide | omega | (intros; exact Eq.trans rfl rfl) | (simp only [puri]; done)) only [a7_0, encN_len, encN_at, g1, g2, hto, hel, hf, allV, hok, ← List.map_take, hsm, haw, vis, visL, visB, fillR, rowsAt, toDs, toD, ↓ops_cons, ↓ops_consz, fzTs, fzLs, rg, rd, o, oz, kc, kb, ks, kx, on, og, od, ogd, A.run, evI, evOpt, evs, evP, argF, V.cs, binD, fzV, fzL, fzVs, dataVs, dataLs, V.data, L.data, unD, fillL, List.take_succ_cons, List.take_zero, List.drop_succ_cons, List.drop_zero, List.cons_append, ne_eq, Nat.reduceLT, Nat.reduceBEq, ↓reduceIte, Nat.reduceEqDiff, Nat.reduceAdd, Nat.reduceMul, Nat.reduceSub, Int.reduceToNat, Nat.reduceLeDiff, Int.reduceNeg, Int.reduceEq, Int.reduceLT, Int.reduceLE, Int.reduceBEq, Int.reduceBNe, Int.reduceToNat, dis])
        · rw [if_neg he] at hf
          (simp (disch := first | decide | omega | (intros; exact Eq.trans rfl rfl) | (simp only [puri]; done)) only [a7_0, encN_len, encN_at, g1, g2, hto, hel, hf, allV, hok, ← List.map_take, hsm, haw, vis, visL, visB, fillR, rowsAt, toDs, toD, ↓ops_cons, ↓ops_consz, fzTs, fzLs, rg, rd, o, oz, kc, kb, ks, kx, on, og, od, ogd, A.run, evI, evOpt, evs, evP, argF, V.cs, binD, fzV, fzL, fzVs, dataVs, dataLs, V.data, L.data, unD, fillL, List.take_succ_cons, List.take_zero, List.drop_succ_cons, List.drop_zero, List.cons_append, ne_eq, Nat.reduceLT, Nat.reduceBEq, ↓reduceIte, Nat.reduceEqDiff, Nat.reduceAdd, Nat.reduceMul, Nat.reduceSub, Int.reduceToNat, Nat.reduceLeDiff, Int.reduceNeg, Int.reduceEq, Int.reduceLT, Int.reduceLE, Int.reduceBEq, Int.reduceBNe, Int.reduceToNat, dis])
    · have hwl : w = l.length := by omega
      have hnle : n ≤ endN l w := by rw [hwl, erow]; omega
      have he : endN l w = n := by omega
      have hf := fin (fun _ => hnle) (by omega)
      rw [if_pos he] at hf
      (simp (disch := first | decide | omega | (intros; exact Eq.trans rfl rfl) | (simp only [puri]; done)) only [a7_0, encN_len, encN_at, g1, hto, hel, hf, allV, hok, ← List.map_take, hsm, haw, vis, visL, visB, fillR, rowsAt, toDs, toD, ↓ops_cons, ↓ops_consz, fzTs, fzLs, rg, rd, o, oz, kc, kb, ks, kx, on, og, od, ogd, A.run, evI, evOpt, evs, evP, argF, V.cs, binD, fzV, fzL, fzVs, dataVs, dataLs, V.data, L.data, unD, fillL, List.take_succ_cons, List.take_zero, List.drop_succ_cons, List.drop_zero, List.cons_append, ne_eq, Nat.reduceLT, Nat.reduceBEq, ↓reduceIte, Nat.reduceEqDiff, Nat.reduceAdd, Nat.reduceMul, Nat.reduceSub, Int.reduceToNat, Nat.reduceLeDiff, Int.reduceNeg, Int.reduceEq, Int.reduceLT, Int.reduceLE, Int.reduceBEq, Int.reduceBNe, Int.reduceToNat, dis])
  · rw [if_neg c] at hr
    (simp (disch := first | decide | omega | (intros; exact Eq.trans rfl rfl) | (simp only [puri]; done)) only [a7, hr, haw, vis, visL, visB, fillR, rowsAt, toDs, toD, ↓ops_cons, ↓ops_consz, fzTs, fzLs, rg, rd, o, oz, kc, kb, ks, kx, on, og, od, ogd, A.run, evI, evOpt, evs, evP, argF, V.cs, binD, fzV, fzL, fzVs, dataVs, dataLs, V.data, L.data, unD, fillL, List.take_succ_cons, List.take_zero, List.drop_succ_cons, List.drop_zero, List.cons_append, ne_eq, Nat.reduceLT, Nat.reduceBEq, ↓reduceIte, Nat.reduceEqDiff, Nat.reduceAdd, Nat.reduceMul, Nat.reduceSub, Int.reduceToNat, Nat.reduceLeDiff, Int.reduceNeg, Int.reduceEq, Int.reduceLT, Int.reduceLE, Int.reduceBEq, Int.reduceBNe, Int.reduceToNat, dis])
end Go.Proofs.Ytgcamaneelgejaa
