import Derived.Test.YthijgiinafanfaaS54
set_option linter.unusedSimpArgs false
set_option linter.unusedVariables false
namespace Go.Proofs.Ythijgiinafanfaa
open Go.Vi
set_option linter.unusedSimpArgs false

/-! ### the last mark not above an offset -/
def cntM (l : List Mk) (off : Int) : Nat := l.countP fun m => decide (m.1 ≤ off)
theorem cnt_iff (off : Int) : ∀ (l : List Mk), l.Pairwise (fun a b => a.1 < b.1) → ∀ i (h : i < l.length), (l[i].1 ≤ off ↔ i < cntM l off) := by
  intro l
  induction l with
  | nil => intro _ i h; simp at h
  | cons m l ih =>
    intro hp i h
    rw [List.pairwise_cons] at hp
    unfold cntM
    rw [List.countP_cons]
    by_cases c : m.1 ≤ off
    · simp only [c, decide_true, if_true]
      cases i with
      | zero => simp [c]
      | succ i =>
        have := ih hp.2 i (by simpa using h)
        unfold cntM at this
        simp only [List.getElem_cons_succ]
        rw [this]; omega
    · have hz : ∀ x ∈ l, ¬ x.1 ≤ off := fun x hx => by have := hp.1 x hx; omega
      have h0 : l.countP (fun m => decide (m.1 ≤ off)) = 0 := by
        rw [List.countP_eq_zero]; intro x hx; simpa using hz x hx
      simp only [c, decide_false, h0]
      cases i with
      | zero => simp [c]
      | succ i =>
        have := hz _ (List.getElem_mem (by simpa using h : i < l.length))
        simp only [List.getElem_cons_succ]
        simp; omega
theorem cnt_le (l : List Mk) (off : Int) : cntM l off ≤ l.length := List.countP_le_length
def findV (l : List Mk) (off : Int) : V := match l[cntM l off - 1]? with
  | some m => if cntM l off = 0 then .tup [(true, [.d (.i .i64 0), .d (.i .i64 0)]), (false, [.d (.b false)])] else .tup [(true, (mkE m).map .d), (false, [.d (.b true)])]
  | none => .tup [(true, [.d (.i .i64 0), .d (.i .i64 0)]), (false, [.d (.b false)])]

set_option maxRecDepth 8000 in
theorem find_spec (l : List Mk) (hl : l.length ≤ 1000000) (hp : l.Pairwise (fun a b => a.1 < b.1)) (off : Int) : call 23 [vl (l.map mkE), vi off] [] = some (findV l off, []) := by
  apply enterS s23 rfl
  (simp (disch := first | decide | omega | (intros; exact Eq.trans rfl rfl) | (simp only [puri]; done)) only [a23, mkE_len, vis, visL, visB, fillR, rowsAt, toDs, toD, ↓ops_cons, ↓ops_consz, fzTs, fzLs, rg, rd, o, oz, kc, kb, ks, kx, on, og, od, ogd, A.run, evI, evOpt, evs, evP, argF, V.cs, binD, fzV, fzL, fzVs, dataVs, dataLs, V.data, L.data, unD, fillL, List.take_succ_cons, List.take_zero, List.drop_succ_cons, List.drop_zero, List.cons_append, ne_eq, Nat.reduceLT, Nat.reduceBEq, ↓reduceIte, Nat.reduceEqDiff, Nat.reduceAdd, Nat.reduceMul, Nat.reduceSub, Int.reduceToNat, Nat.reduceLeDiff, Int.reduceNeg, Int.reduceEq, Int.reduceLT, Int.reduceLE, Int.reduceBEq, Int.reduceBNe, Int.reduceToNat, dis])
  refine loop_box (σ := Nat × Nat) (fun t => t.2 - t.1) (fun t => t.1 ≤ cntM l off ∧ cntM l off ≤ t.2 ∧ t.2 ≤ l.length) (fun t => [vl (l.map mkE), vi off, .one (.p 0 0), vi t.1, vi t.2]) (fun t => [.cells [.d (.i .i64 0), .d (.i .i64 0)]])
    (fun t => (findV l off, ([] : Hp))) ?_ (0, l.length) ⟨Nat.zero_le _, cnt_le l off, Nat.le_refl _⟩ _ _ (at_head2 (by decide) (by simp only [List.map_cons, List.map_nil, vis, visL, visB, fillR, rowsAt, toDs, toD, ↓ops_cons, ↓ops_consz, fzTs, fzLs, rg, rd, o, oz, kc, kb, ks, kx, on, og, od, ogd, A.run, evI, evOpt, evs, evP, argF, V.cs, binD, fzV, fzL, fzVs, dataVs, dataLs, V.data, L.data, unD, fillL, List.take_succ_cons, List.take_zero, List.drop_succ_cons, List.drop_zero, List.cons_append, ne_eq, Nat.reduceLT, Nat.reduceBEq, ↓reduceIte, Nat.reduceEqDiff, Nat.reduceAdd, Nat.reduceMul, Nat.reduceSub, Int.reduceToNat, Nat.reduceLeDiff, Int.reduceNeg, Int.reduceEq, Int.reduceLT, Int.reduceLE, Int.reduceBEq, Int.reduceBNe, Int.reduceToNat]; exact rfl) (by simp [idsOf, reach, place_cons, place_nil, canonH, V.ren, L.ren, Box.ren, V.refs, L.refs, Box.refs, true_and]) (by simp [idsOf, reach, place_cons, place_nil, canonH, V.ren, L.ren, Box.ren, V.refs, L.refs, Box.refs, true_and]))
  rintro ⟨lo, hi⟩ ⟨h1, h2, h3⟩ R hR
  simp only at h1 h2 h3
  by_cases c : lo < hi
  · have hq : IntKind.i64.wrap (((lo : Int) + (hi : Int))) = ((lo + hi : Nat) : Int) := by rw [wrap_i (by omega)]; omega
    have hq2 : (((lo + hi : Nat) : Int)).tdiv 2 = (((lo + hi) / 2 : Nat) : Int) := by
      rw [Int.tdiv_eq_ediv_of_nonneg (by omega)]; omega
    have hmid : (lo + hi) / 2 < l.length := by omega
    have hc := cnt_iff off l hp _ hmid
    obtain ⟨mid, hm⟩ : ∃ mid, mid = (lo + hi) / 2 := ⟨_, rfl⟩
    simp only [← hm] at hq2 hmid hc
    have g1 : (l.map mkE)[mid]? = some (mkE l[mid]) := by simp [hmid]
    by_cases c2 : l[mid].1 ≤ off
    · have := hc.1 c2
      (simp (disch := first | decide | omega | (intros; exact Eq.trans rfl rfl) | (simp only [puri]; done)) only [a23_0, mkE_len, mkE_0, hq, hq2, g1, c2, vis, visL, visB, fillR, rowsAt, toDs, toD, ↓ops_cons, ↓ops_consz, fzTs, fzLs, rg, rd, o, oz, kc, kb, ks, kx, on, og, od, ogd, A.run, evI, evOpt, evs, evP, argF, V.cs, binD, fzV, fzL, fzVs, dataVs, dataLs, V.data, L.data, unD, fillL, List.take_succ_cons, List.take_zero, List.drop_succ_cons, List.drop_zero, List.cons_append, ne_eq, Nat.reduceLT, Nat.reduceBEq, ↓reduceIte, Nat.reduceEqDiff, Nat.reduceAdd, Nat.reduceMul, Nat.reduceSub, Int.reduceToNat, Nat.reduceLeDiff, Int.reduceNeg, Int.reduceEq, Int.reduceLT, Int.reduceLE, Int.reduceBEq, Int.reduceBNe, Int.reduceToNat, dis])
      exact hR (mid + 1, hi) (by simp only []; omega) ⟨by simp only []; omega, h2, h3⟩ _ _ (at_head2 (by decide) (by simp only [List.map_cons, List.map_nil, vis, visL, visB, fillR, rowsAt, toDs, toD, ↓ops_cons, ↓ops_consz, fzTs, fzLs, rg, rd, o, oz, kc, kb, ks, kx, on, og, od, ogd, A.run, evI, evOpt, evs, evP, argF, V.cs, binD, fzV, fzL, fzVs, dataVs, dataLs, V.data, L.data, unD, fillL, List.take_succ_cons, List.take_zero, List.drop_succ_cons, List.drop_zero, List.cons_append, ne_eq, Nat.reduceLT, Nat.reduceBEq, ↓reduceIte, Nat.reduceEqDiff, Nat.reduceAdd, Nat.reduceMul, Nat.reduceSub, Int.reduceToNat, Nat.reduceLeDiff, Int.reduceNeg, Int.reduceEq, Int.reduceLT, Int.reduceLE, Int.reduceBEq, Int.reduceBNe, Int.reduceToNat]; exact rfl) (by simp [idsOf, reach, place_cons, place_nil, canonH, V.ren, L.ren, Box.ren, V.refs, L.refs, Box.refs, true_and]) (by simp [idsOf, reach, place_cons, place_nil, canonH, V.ren, L.ren, Box.ren, V.refs, L.refs, Box.refs, true_and]))
    · have : ¬ mid < cntM l off := fun h => c2 (hc.2 h)
      (simp (disch := first | decide | omega | (intros; exact Eq.trans rfl rfl) | (simp only [puri]; done)) only [a23_0, mkE_len, mkE_0, hq, hq2, g1, c2, vis, visL, visB, fillR, rowsAt, toDs, toD, ↓ops_cons, ↓ops_consz, fzTs, fzLs, rg, rd, o, oz, kc, kb, ks, kx, on, og, od, ogd, A.run, evI, evOpt, evs, evP, argF, V.cs, binD, fzV, fzL, fzVs, dataVs, dataLs, V.data, L.data, unD, fillL, List.take_succ_cons, List.take_zero, List.drop_succ_cons, List.drop_zero, List.cons_append, ne_eq, Nat.reduceLT, Nat.reduceBEq, ↓reduceIte, Nat.reduceEqDiff, Nat.reduceAdd, Nat.reduceMul, Nat.reduceSub, Int.reduceToNat, Nat.reduceLeDiff, Int.reduceNeg, Int.reduceEq, Int.reduceLT, Int.reduceLE, Int.reduceBEq, Int.reduceBNe, Int.reduceToNat, dis])
      exact hR (lo, mid) (by simp only []; omega) ⟨h1, by simp only []; omega, by simp only []; omega⟩ _ _ (at_head2 (by decide) (by simp only [List.map_cons, List.map_nil, vis, visL, visB, fillR, rowsAt, toDs, toD, ↓ops_cons, ↓ops_consz, fzTs, fzLs, rg, rd, o, oz, kc, kb, ks, kx, on, og, od, ogd, A.run, evI, evOpt, evs, evP, argF, V.cs, binD, fzV, fzL, fzVs, dataVs, dataLs, V.data, L.data, unD, fillL, List.take_succ_cons, List.take_zero, List.drop_succ_cons, List.drop_zero, List.cons_append, ne_eq, Nat.reduceLT, Nat.reduceBEq, ↓reduceIte, Nat.reduceEqDiff, Nat.reduceAdd, Nat.reduceMul, Nat.reduceSub, Int.reduceToNat, Nat.reduceLeDiff, Int.reduceNeg, Int.reduceEq, Int.reduceLT, Int.reduceLE, Int.reduceBEq, Int.reduceBNe, Int.reduceToNat]; exact rfl) (by simp [idsOf, reach, place_cons, place_nil, canonH, V.ren, L.ren, Box.ren, V.refs, L.refs, Box.refs, true_and]) (by simp [idsOf, reach, place_cons, place_nil, canonH, V.ren, L.ren, Box.ren, V.refs, L.refs, Box.refs, true_and]))
  · have hlo : lo = cntM l off := by omega
    unfold findV
    rw [← hlo]
    by_cases c0 : lo = 0
    · (simp (disch := first | decide | omega | (intros; exact Eq.trans rfl rfl) | (simp only [puri]; done)) only [a23_0, mkE_len, c0, vis, visL, visB, fillR, rowsAt, toDs, toD, ↓ops_cons, ↓ops_consz, fzTs, fzLs, rg, rd, o, oz, kc, kb, ks, kx, on, og, od, ogd, A.run, evI, evOpt, evs, evP, argF, V.cs, binD, fzV, fzL, fzVs, dataVs, dataLs, V.data, L.data, unD, fillL, List.take_succ_cons, List.take_zero, List.drop_succ_cons, List.drop_zero, List.cons_append, ne_eq, Nat.reduceLT, Nat.reduceBEq, ↓reduceIte, Nat.reduceEqDiff, Nat.reduceAdd, Nat.reduceMul, Nat.reduceSub, Int.reduceToNat, Nat.reduceLeDiff, Int.reduceNeg, Int.reduceEq, Int.reduceLT, Int.reduceLE, Int.reduceBEq, Int.reduceBNe, Int.reduceToNat, dis])
      subst c0
      split <;> simp
    · have hlt : lo - 1 < l.length := by omega
      have g1 : (l.map mkE)[lo - 1]? = some (mkE l[lo - 1]) := by simp [hlt]
      have g2 : l[lo - 1]? = some l[lo - 1] := by simp [hlt]
      have hto : ((lo : Int) - 1).toNat = lo - 1 := by omega
      (simp (disch := first | decide | omega | (intros; exact Eq.trans rfl rfl) | (simp only [puri]; done)) only [a23_0, mkE_len, mkE_tk, c0, g1, g2, hto, mkE, List.map_cons, List.map_nil, vis, visL, visB, fillR, rowsAt, toDs, toD, ↓ops_cons, ↓ops_consz, fzTs, fzLs, rg, rd, o, oz, kc, kb, ks, kx, on, og, od, ogd, A.run, evI, evOpt, evs, evP, argF, V.cs, binD, fzV, fzL, fzVs, dataVs, dataLs, V.data, L.data, unD, fillL, List.take_succ_cons, List.take_zero, List.drop_succ_cons, List.drop_zero, List.cons_append, ne_eq, Nat.reduceLT, Nat.reduceBEq, ↓reduceIte, Nat.reduceEqDiff, Nat.reduceAdd, Nat.reduceMul, Nat.reduceSub, Int.reduceToNat, Nat.reduceLeDiff, Int.reduceNeg, Int.reduceEq, Int.reduceLT, Int.reduceLE, Int.reduceBEq, Int.reduceBNe, Int.reduceToNat, dis])
end Go.Proofs.Ythijgiinafanfaa
