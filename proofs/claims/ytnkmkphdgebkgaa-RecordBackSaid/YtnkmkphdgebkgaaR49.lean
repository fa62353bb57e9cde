import Derived.Test.YtnkmkphdgebkgaaR48
set_option linter.unusedSimpArgs false
set_option linter.unusedVariables false
namespace Go.Proofs.Ytnkmkphdgebkgaa
open Go.Vi
set_option linter.unusedSimpArgs false

set_option maxRecDepth 8000 in
theorem refRows_spec (s : List UInt8) (hs : s.length ≤ 1000000) : call 21 [vs s] [] = some (rowsV (rowsF (s.length + 1 - 0) s 0), []) := by
  apply enterS s21 rfl
  (simp (disch := first | decide | omega | (intros; exact Eq.trans rfl rfl) | (simp only [puri]; done)) only [a21, vis, visL, visB, fillR, rowsAt, toDs, toD, ↓ops_cons, ↓ops_consz, fzTs, fzLs, rg, rd, o, oz, kc, kb, ks, kx, on, og, od, ogd, A.run, evI, evOpt, evs, evP, argF, V.cs, binD, fzV, fzL, fzVs, dataVs, dataLs, V.data, L.data, unD, fillL, List.take_succ_cons, List.take_zero, List.drop_succ_cons, List.drop_zero, List.cons_append, ne_eq, Nat.reduceLT, Nat.reduceBEq, ↓reduceIte, Nat.reduceEqDiff, Nat.reduceAdd, Nat.reduceMul, Nat.reduceSub, Int.reduceToNat, Nat.reduceLeDiff, Int.reduceNeg, Int.reduceEq, Int.reduceLT, Int.reduceLE, Int.reduceBEq, Int.reduceBNe, Int.reduceToNat, dis])
  refine loop_box (σ := Nat × List Rec) (fun t => s.length - t.1) (fun t => t.1 ≤ s.length ∧ t.2.length ≤ t.1) (fun t => [vs s, .one (.sl 0 3 0 t.2.length), vi t.1]) (fun t => [.arr 3 (t.2.map Rec.enc) 0])
    (fun t => (rowsV (t.2 ++ (rowsF (s.length + 1 - t.1) s t.1).1, (rowsF (s.length + 1 - t.1) s t.1).2), ([] : Hp))) ?_ (0, []) ⟨Nat.zero_le _, by simp⟩ _ _ (at_head2 (by decide) (by simp only [List.map_cons, List.map_nil, vis, visL, visB, fillR, rowsAt, toDs, toD, ↓ops_cons, ↓ops_consz, fzTs, fzLs, rg, rd, o, oz, kc, kb, ks, kx, on, og, od, ogd, A.run, evI, evOpt, evs, evP, argF, V.cs, binD, fzV, fzL, fzVs, dataVs, dataLs, V.data, L.data, unD, fillL, List.take_succ_cons, List.take_zero, List.drop_succ_cons, List.drop_zero, List.cons_append, ne_eq, Nat.reduceLT, Nat.reduceBEq, ↓reduceIte, Nat.reduceEqDiff, Nat.reduceAdd, Nat.reduceMul, Nat.reduceSub, Int.reduceToNat, Nat.reduceLeDiff, Int.reduceNeg, Int.reduceEq, Int.reduceLT, Int.reduceLE, Int.reduceBEq, Int.reduceBNe, Int.reduceToNat]; exact rfl) (by simp [idsOf, reach, place_cons, place_nil, canonH, V.ren, L.ren, Box.ren, V.refs, L.refs, Box.refs, true_and]) (by simp [idsOf, reach, place_cons, place_nil, canonH, V.ren, L.ren, Box.ren, V.refs, L.refs, Box.refs, true_and]))
  rintro ⟨a, out⟩ ⟨ha, hout⟩ R hR
  simp only at ha hout
  rcases Nat.lt_or_ge a s.length with h | h
  · obtain ⟨f, hf⟩ : ∃ f, s.length + 1 - a = f + 1 := ⟨s.length - a, by omega⟩
    have hn := refNext_spec s a (by omega) (by omega)
    have htl := nextF_tlen s a
    obtain ⟨⟨t, n, e⟩, hx⟩ : ∃ x, nextF s a = x := ⟨_, rfl⟩
    rw [hx] at hn htl
    by_cases he : e = 0
    · subst he
      have hok := nextF_ok hx
      have hg := refGet_spec t (by simp only [] at htl; omega)
      have hst := @rowsF_step s t a n f h hx
      have hbd := @rowsF_bad s t a n f h hx
      obtain ⟨⟨r, g⟩, hq⟩ : ∃ x, getR t = x := ⟨_, rfl⟩
      rw [hq] at hg hst hbd
      simp only [recV] at hg hst hbd
      by_cases hz : g = 0
      · subst hz
        simp only [hf, hst rfl]
        have e3 : rowsF f s n = rowsF (s.length + 1 - n) s n := rowsF_fuel _ _ n hok.2 (by omega) (by omega)
        have hm : List.map Rec.enc out ++ [r.enc] = List.map Rec.enc (out ++ [r]) := by simp
        (simp (disch := first | decide | omega | (intros; exact Eq.trans rfl rfl) | (simp only [puri]; done)) only [a21_0, hn, nextV, hg, Rec.len, Rec.tk, Rec.tkL, Rec.dat, Rec.lenL, vis, visL, visB, fillR, rowsAt, toDs, toD, ↓ops_cons, ↓ops_consz, fzTs, fzLs, rg, rd, o, oz, kc, kb, ks, kx, on, og, od, ogd, A.run, evI, evOpt, evs, evP, argF, V.cs, binD, fzV, fzL, fzVs, dataVs, dataLs, V.data, L.data, unD, fillL, List.take_succ_cons, List.take_zero, List.drop_succ_cons, List.drop_zero, List.cons_append, ne_eq, Nat.reduceLT, Nat.reduceBEq, ↓reduceIte, Nat.reduceEqDiff, Nat.reduceAdd, Nat.reduceMul, Nat.reduceSub, Int.reduceToNat, Nat.reduceLeDiff, Int.reduceNeg, Int.reduceEq, Int.reduceLT, Int.reduceLE, Int.reduceBEq, Int.reduceBNe, Int.reduceToNat, dis])
        have hR' := hR (n, out ++ [r]) (by simp only []; omega) ⟨hok.2, by simp; omega⟩
        simp only [List.append_assoc, List.singleton_append, ← e3] at hR'
        exact hR' _ _ (at_head2 (by decide) (by simp only [List.map_cons, List.map_nil, vis, visL, visB, fillR, rowsAt, toDs, toD, ↓ops_cons, ↓ops_consz, fzTs, fzLs, rg, rd, o, oz, kc, kb, ks, kx, on, og, od, ogd, A.run, evI, evOpt, evs, evP, argF, V.cs, binD, fzV, fzL, fzVs, dataVs, dataLs, V.data, L.data, unD, fillL, List.take_succ_cons, List.take_zero, List.drop_succ_cons, List.drop_zero, List.cons_append, ne_eq, Nat.reduceLT, Nat.reduceBEq, ↓reduceIte, Nat.reduceEqDiff, Nat.reduceAdd, Nat.reduceMul, Nat.reduceSub, Int.reduceToNat, Nat.reduceLeDiff, Int.reduceNeg, Int.reduceEq, Int.reduceLT, Int.reduceLE, Int.reduceBEq, Int.reduceBNe, Int.reduceToNat]; exact rfl) (by simp [idsOf, reach, place_cons, place_nil, canonH, V.ren, L.ren, Box.ren, V.refs, L.refs, Box.refs, Rec.rfs, Rec.rn]) (by simp [idsOf, reach, place_cons, place_nil, canonH, V.ren, L.ren, Box.ren, V.refs, L.refs, Box.refs, Rec.rfs, Rec.rn]))
      · simp only [hf, hbd hz]
        (simp (disch := first | decide | omega | (intros; exact Eq.trans rfl rfl) | (simp only [puri]; done)) only [a21_0, hn, nextV, hg, rowsV, Rec.len, Rec.tk, Rec.tkL, Rec.dat, Rec.lenL, vis, visL, visB, fillR, rowsAt, toDs, toD, ↓ops_cons, ↓ops_consz, fzTs, fzLs, rg, rd, o, oz, kc, kb, ks, kx, on, og, od, ogd, A.run, evI, evOpt, evs, evP, argF, V.cs, binD, fzV, fzL, fzVs, dataVs, dataLs, V.data, L.data, unD, fillL, List.take_succ_cons, List.take_zero, List.drop_succ_cons, List.drop_zero, List.cons_append, ne_eq, Nat.reduceLT, Nat.reduceBEq, ↓reduceIte, Nat.reduceEqDiff, Nat.reduceAdd, Nat.reduceMul, Nat.reduceSub, Int.reduceToNat, Nat.reduceLeDiff, Int.reduceNeg, Int.reduceEq, Int.reduceLT, Int.reduceLE, Int.reduceBEq, Int.reduceBNe, Int.reduceToNat, dis])
        try simp
    · simp only [hf, rowsF_stop h hx he]
      (simp (disch := first | decide | omega | (intros; exact Eq.trans rfl rfl) | (simp only [puri]; done)) only [a21_0, hn, nextV, rowsV, vis, visL, visB, fillR, rowsAt, toDs, toD, ↓ops_cons, ↓ops_consz, fzTs, fzLs, rg, rd, o, oz, kc, kb, ks, kx, on, og, od, ogd, A.run, evI, evOpt, evs, evP, argF, V.cs, binD, fzV, fzL, fzVs, dataVs, dataLs, V.data, L.data, unD, fillL, List.take_succ_cons, List.take_zero, List.drop_succ_cons, List.drop_zero, List.cons_append, ne_eq, Nat.reduceLT, Nat.reduceBEq, ↓reduceIte, Nat.reduceEqDiff, Nat.reduceAdd, Nat.reduceMul, Nat.reduceSub, Int.reduceToNat, Nat.reduceLeDiff, Int.reduceNeg, Int.reduceEq, Int.reduceLT, Int.reduceLE, Int.reduceBEq, Int.reduceBNe, Int.reduceToNat, dis])
      try simp
  · have hal : a = s.length := by omega
    subst hal
    simp only [rowsF_end (Nat.le_refl _)]
    (simp (disch := first | decide | omega | (intros; exact Eq.trans rfl rfl) | (simp only [puri]; done)) only [a21_0, rowsV, vis, visL, visB, fillR, rowsAt, toDs, toD, ↓ops_cons, ↓ops_consz, fzTs, fzLs, rg, rd, o, oz, kc, kb, ks, kx, on, og, od, ogd, A.run, evI, evOpt, evs, evP, argF, V.cs, binD, fzV, fzL, fzVs, dataVs, dataLs, V.data, L.data, unD, fillL, List.take_succ_cons, List.take_zero, List.drop_succ_cons, List.drop_zero, List.cons_append, ne_eq, Nat.reduceLT, Nat.reduceBEq, ↓reduceIte, Nat.reduceEqDiff, Nat.reduceAdd, Nat.reduceMul, Nat.reduceSub, Int.reduceToNat, Nat.reduceLeDiff, Int.reduceNeg, Int.reduceEq, Int.reduceLT, Int.reduceLE, Int.reduceBEq, Int.reduceBNe, Int.reduceToNat, dis])
    try simp

theorem getR_body {r : Rec} (h : Fit r) : getR (bodyF r) = (r, 0) := by
  have h0 := h.a0; have h1 := h.a1; have h2 := h.t0; have h3 := h.t1
  have ea : ((r.at_.toNat : Nat) : Int) = r.at_ := by omega
  have et : ((r.ti.toNat : Nat) : Int) = r.ti := by omega
  have r1 : rdF (bodyF r) 0 0 = some (r.at_.toNat, nd r.at_.toNat) := by
    unfold bodyF; rw [List.append_assoc]; exact rdF_of0 _ _ (by omega)
  have d1 : (bodyF r).drop (nd r.at_.toNat) = enc128 r.ti.toNat ++ r.da := by
    unfold bodyF nd; rw [List.append_assoc, List.drop_left]
  have r2 : rdF (enc128 r.ti.toNat ++ r.da) 0 0 = some (r.ti.toNat, nd r.ti.toNat) := rdF_of0 _ _ (by omega)
  have d2 : (bodyF r).drop (nd r.at_.toNat + nd r.ti.toNat) = r.da := by
    rw [← List.drop_drop, d1]; unfold nd; rw [List.drop_left]
  have er : (⟨((r.at_.toNat : Nat) : Int), ((r.ti.toNat : Nat) : Int), r.da⟩ : Rec) = r := by rw [ea, et]
  unfold getR
  rw [r1]
  simp only []
  rw [d1, r2]
  simp only []
  rw [d2, er, if_pos (why_fit.2 h)]
theorem rowsF_row : ∀ (l : List Rec) (p : List UInt8) (f : Nat), (∀ r ∈ l, whyF r = 0) → l.length < f → rowsF f (p ++ rowS l) p.length = (l, (p ++ rowS l).length, 0)
  | [], p, f, _, _ => by
    have : rowS [] = [] := rfl
    rw [this, List.append_nil, rowsF_end (Nat.le_refl _)]
  | r :: l, p, f, hw, hf => by
    obtain ⟨g, rfl⟩ : ∃ g, f = g + 1 := ⟨f - 1, by omega⟩
    have w0 := hw r (List.mem_cons_self ..)
    have hfit := why_fit.1 w0
    have hb := hfit.blen
    have e : rowS (r :: l) = frameF (bodyF r) ++ rowS l := rfl
    have hp := frame_pos (bodyF r)
    have hx := nextF_frame p (bodyF r) (rowS l) (by omega) (by omega)
    have hlt : p.length < (p ++ rowS (r :: l)).length := by rw [e]; simp; omega
    have hg := getR_body hfit
    have ih := rowsF_row l (p ++ frameF (bodyF r)) g (fun x hx => hw x (List.mem_cons_of_mem _ hx)) (by simp at hf; omega)
    rw [List.length_append, List.append_assoc] at ih
    rw [← e] at hx ih
    rw [rowsF_step hlt hx (by rw [hg]), hg, ih]
theorem rowE_all : ∀ {l : List Rec}, rowE l = 0 → ∀ r ∈ l, whyF r = 0
  | [], _, r, hr => by cases hr
  | a :: l, h, r, hr => by
    unfold rowE at h
    split at h
    · rcases List.mem_cons.1 hr with rfl | hr
      · assumption
      · exact rowE_all h r hr
    · exact absurd h (by assumption)
theorem fewR_t {l : List Rec} (h : fewR l 30 = true) : l.length ≤ 30 := by
  simp only [fewR, Bool.and_eq_true, decide_eq_true_eq] at h; omega
theorem rowS_le {l : List Rec} (h : ∀ r ∈ l, whyF r = 0) : (rowS l).length ≤ 82 * l.length := by
  induction l with
  | nil => simp [rowS]
  | cons r l ih =>
    have h1 := frameR_le (h r (List.mem_cons_self ..))
    have h2 := ih fun x hx => h x (List.mem_cons_of_mem _ hx)
    have e : rowS (r :: l) = frameR r ++ rowS l := rfl
    rw [e, List.length_append, List.length_cons]; omega
end Go.Proofs.Ytnkmkphdgebkgaa
