import Derived.Test.YtogleebbifpijaaW79
set_option linter.unusedSimpArgs false
set_option linter.unusedVariables false
namespace Go.Proofs.Ytogleebbifpijaa
open Go.Vi
set_option linter.unusedSimpArgs false

def recsGo : Nat → Int → RdS → List Rec × RdS
  | 0, _, t => ([], t)
  | k + 1, a, t => if t.2 = true then ([], t) else
    (⟨IntKind.i64.wrap a, (num t).1, (txt (num (num t).2).1 (num (num t).2).2).1⟩ :: (recsGo k (a + 1) (txt (num (num t).2).1 (num (num t).2).2).2).1, (recsGo k (a + 1) (txt (num (num t).2).1 (num (num t).2).2).2).2)
theorem recsGo_bad (k : Nat) (a : Int) (s : List UInt8) : recsGo k a (s, true) = ([], (s, true)) := by
  cases k with
  | zero => rfl
  | succ k => simp [recsGo]
theorem recsGo_step (k : Nat) (a : Int) (s : List UInt8) : recsGo (k + 1) a (s, false) = (⟨IntKind.i64.wrap a, (num (s, false)).1, (txt (num (num (s, false)).2).1 (num (num (s, false)).2).2).1⟩ :: (recsGo k (a + 1) (txt (num (num (s, false)).2).1 (num (num (s, false)).2).2).2).1, (recsGo k (a + 1) (txt (num (num (s, false)).2).1 (num (num (s, false)).2).2).2).2) := by
  simp [recsGo]
def cutB (n : Int) (t : RdS) : RdS := if 64 < n then (t.1, true) else t
def recsR (a : Int) (t : RdS) : List Rec × RdS := recsGo (num t).1.toNat a (cutB (num t).1 (num t).2)
theorem txt_len (n : Int) (t : RdS) : (txt n t).2.1.length ≤ t.1.length := by
  unfold txt; split <;> simp
theorem numI (t : RdS) (hl : t.1.length ≤ 1000000) (T : Hp) : callIso call 26 [.one (.p 0 0)] (rdrB t :: T) = some (vi (num t).1, rdrB (num t).2 :: T) :=
  iso_at (ids := [0]) rfl rfl rfl (number_spec t hl) (by simp [setAll, rdrB, Box.ren, V.ren, L.ren])
theorem txtI (t : RdS) (n : Int) (hn : natI n) (hl : t.1.length ≤ 1000000) (T : Hp) : callIso call 45 [.one (.p 0 0), vi n] (rdrB t :: T) = some (vs (txt n t).1, rdrB (txt n t).2 :: T) :=
  iso_at (ids := [0]) rfl rfl rfl (rtext_spec t n hn hl) (by simp [setAll, rdrB, Box.ren, V.ren, L.ren])
set_option maxRecDepth 8000 in
theorem records_spec (t : RdS) (a : Int) (hl : t.1.length ≤ 1000000) : call 27 [.one (.p 0 0), vi a] [rdrB t] = some (vl ((recsR a t).1.map Rec.enc), [rdrB (recsR a t).2]) := by
  apply enterS s27 rfl
  unfold recsR
  have hn := num_nat t
  have hnl := num_len t
  have h1 := numI t hl []
  obtain ⟨⟨n, t1⟩, hx⟩ : ∃ x, num t = x := ⟨_, rfl⟩
  rw [hx] at hn hnl h1 ⊢
  simp only at hn hnl h1 ⊢
  obtain ⟨Z, hZ⟩ : ∃ Z : V × Hp, Z = (vl ((recsGo n.toNat a (cutB n t1)).1.map Rec.enc), [rdrB (recsGo n.toNat a (cutB n t1)).2]) := ⟨_, rfl⟩
  rw [← hZ]
  unfold natI at hn
  have main : ∀ (t2 : RdS) (f : Vi.Fn) (H : Hp), t2.1.length ≤ 1000000 → (64 < n → t2.2 = true) → Z = (vl ((recsGo n.toNat a t2).1.map Rec.enc), [rdrB (recsGo n.toNat a t2).2]) →
      canon 1 [0, 1, 5, 6, 7] (frameOf 44 f) H = (frameOf 44 (fnAt [0, 1, 5, 6, 7] [V.one (.p 0 0), vi a, vi n, .one (.sl 1 3 0 0), vi 0]), [rdrB t2, .arr 3 [] 0]) →
      goU call 1 (finK [.t 4] false 1) (.loop [0, 1, 5, 6, 7] a27_0) (frameOf 44 f) H [.k 0, .s (.seq (rg [o 43 (.mv (.t 6)), o 4 (.mv (.t 43))]) .ret)] = some Z := by
    intro t2 f H ht2 hcut hZ2 hc
    refine loop_boxM (m := 1) (σ := Nat × RdS × List Rec) (fun q => n.toNat - q.1) (fun q => q.1 ≤ n.toNat ∧ q.2.2.length ≤ q.1 ∧ q.2.1.1.length ≤ 1000000 ∧ (64 < n → q.2.1.2 = true) ∧ Z = (vl ((q.2.2 ++ (recsGo (n.toNat - q.1) (a + q.1) q.2.1).1).map Rec.enc), [rdrB (recsGo (n.toNat - q.1) (a + q.1) q.2.1).2])) (fun q => [V.one (.p 0 0), vi a, vi n, .one (.sl 1 3 0 q.2.2.length), vi q.1]) (fun q => [rdrB q.2.1, .arr 3 (q.2.2.map Rec.enc) 0]) (fun _ => Z) ?_ (0, t2, []) ⟨Nat.zero_le _, Nat.le_refl _, ht2, hcut, by simpa using hZ2⟩ _ _ hc
    rintro ⟨i, ⟨s, b⟩, out⟩ ⟨hi, hout, hs, hb, hZ3⟩ R hR
    simp only at hi hout hs hb hZ3
    cases b with
    | true =>
      rw [recsGo_bad, List.append_nil] at hZ3
      simp only [rdrB]
      by_cases c : (i : Int) < n
      · (simp (disch := first | decide | omega | (intros; exact Eq.trans rfl rfl) | (simp only [puri]; done)) only [a27_0, c, vis, visL, visB, fillR, rowsAt, toDs, toD, ↓ops_cons, ↓ops_consz, fzTs, fzLs, rg, rd, o, oz, kc, kb, ks, kx, on, og, od, ogd, A.run, evI, evOpt, evs, evP, argF, V.cs, binD, fzV, fzL, fzVs, dataVs, dataLs, V.data, L.data, unD, fillL, List.take_succ_cons, List.take_zero, List.drop_succ_cons, List.drop_zero, List.cons_append, ne_eq, Nat.reduceLT, Nat.reduceBEq, ↓reduceIte, Nat.reduceEqDiff, Nat.reduceAdd, Nat.reduceMul, Nat.reduceSub, Int.reduceToNat, Nat.reduceLeDiff, Int.reduceNeg, Int.reduceEq, Int.reduceLT, Int.reduceLE, Int.reduceBEq, Int.reduceBNe, Int.reduceToNat, dis])
        rw [hZ3]
        simp [trim, V.refs, L.refs, Box.refs, rdrB]
      · (simp (disch := first | decide | omega | (intros; exact Eq.trans rfl rfl) | (simp only [puri]; done)) only [a27_0, c, vis, visL, visB, fillR, rowsAt, toDs, toD, ↓ops_cons, ↓ops_consz, fzTs, fzLs, rg, rd, o, oz, kc, kb, ks, kx, on, og, od, ogd, A.run, evI, evOpt, evs, evP, argF, V.cs, binD, fzV, fzL, fzVs, dataVs, dataLs, V.data, L.data, unD, fillL, List.take_succ_cons, List.take_zero, List.drop_succ_cons, List.drop_zero, List.cons_append, ne_eq, Nat.reduceLT, Nat.reduceBEq, ↓reduceIte, Nat.reduceEqDiff, Nat.reduceAdd, Nat.reduceMul, Nat.reduceSub, Int.reduceToNat, Nat.reduceLeDiff, Int.reduceNeg, Int.reduceEq, Int.reduceLT, Int.reduceLE, Int.reduceBEq, Int.reduceBNe, Int.reduceToNat, dis])
        rw [hZ3]
        simp [trim, V.refs, L.refs, Box.refs, rdrB]
    | false =>
      by_cases c : (i : Int) < n
      · obtain ⟨k, hk⟩ : ∃ k, n.toNat - i = k + 1 := ⟨n.toNat - i - 1, by omega⟩
        have hn64 : n ≤ 64 := by
          rcases Int.lt_or_le 64 n with h | h
          · have := hb h; cases this
          · exact h
        rw [hk, recsGo_step] at hZ3
        have hk2 : n.toNat - (i + 1) = k := by omega
        have e1 := num_nat (s, false)
        have l1 := num_len (s, false)
        have c1 := numI (s, false) hs
        obtain ⟨⟨ti, t3⟩, hx1⟩ : ∃ x, num (s, false) = x := ⟨_, rfl⟩
        rw [hx1] at hZ3 e1 l1 c1
        simp only at hZ3 e1 l1 c1
        have e2 := num_nat t3
        have l2 := num_len t3
        have c2 := numI t3 (by omega)
        obtain ⟨⟨ln, t4⟩, hx2⟩ : ∃ x, num t3 = x := ⟨_, rfl⟩
        rw [hx2] at hZ3 e2 l2 c2
        simp only at hZ3 e2 l2 c2
        have l3 := txt_len ln t4
        have c3 := txtI t4 ln e2 (by omega)
        obtain ⟨⟨d, t5⟩, hx3⟩ : ∃ x, txt ln t4 = x := ⟨_, rfl⟩
        rw [hx3] at hZ3 l3 c3
        simp only at hZ3 l3 c3
        have hR' := hR (i + 1, t5, out ++ [⟨IntKind.i64.wrap (a + i), ti, d⟩]) (by simp only []; omega) ⟨by simp only []; omega, by simp; omega, by simp only []; omega, fun h => by omega, by
          simp only [hk2, List.append_assoc, List.singleton_append]
          have e9 : a + ((i + 1 : Nat) : Int) = a + i + 1 := by omega
          rw [e9]; exact hZ3⟩
        simp only [List.length_append, List.length_cons, List.length_nil, Nat.zero_add, List.map_append, List.map_cons, List.map_nil, Rec.enc] at hR'
        have hf : rdrB (s, false) = .cells [.d (.s s), .d (.b false)] := rfl
        simp only [hf] at c1 ⊢
        (simp (disch := first | decide | omega | (intros; exact Eq.trans rfl rfl) | (simp only [puri]; done)) only [a27_0, c, c1, c2, c3, vis, visL, visB, fillR, rowsAt, toDs, toD, ↓ops_cons, ↓ops_consz, fzTs, fzLs, rg, rd, o, oz, kc, kb, ks, kx, on, og, od, ogd, A.run, evI, evOpt, evs, evP, argF, V.cs, binD, fzV, fzL, fzVs, dataVs, dataLs, V.data, L.data, unD, fillL, List.take_succ_cons, List.take_zero, List.drop_succ_cons, List.drop_zero, List.cons_append, ne_eq, Nat.reduceLT, Nat.reduceBEq, ↓reduceIte, Nat.reduceEqDiff, Nat.reduceAdd, Nat.reduceMul, Nat.reduceSub, Int.reduceToNat, Nat.reduceLeDiff, Int.reduceNeg, Int.reduceEq, Int.reduceLT, Int.reduceLE, Int.reduceBEq, Int.reduceBNe, Int.reduceToNat, dis])
        simp only [Rec.enc] at hR ⊢
        exact hR' _ _ (at_headM (by decide) (by simp only [List.map_cons, List.map_nil, vis, visL, visB, fillR, rowsAt, toDs, toD, ↓ops_cons, ↓ops_consz, fzTs, fzLs, rg, rd, o, oz, kc, kb, ks, kx, on, og, od, ogd, A.run, evI, evOpt, evs, evP, argF, V.cs, binD, fzV, fzL, fzVs, dataVs, dataLs, V.data, L.data, unD, fillL, List.take_succ_cons, List.take_zero, List.drop_succ_cons, List.drop_zero, List.cons_append, ne_eq, Nat.reduceLT, Nat.reduceBEq, ↓reduceIte, Nat.reduceEqDiff, Nat.reduceAdd, Nat.reduceMul, Nat.reduceSub, Int.reduceToNat, Nat.reduceLeDiff, Int.reduceNeg, Int.reduceEq, Int.reduceLT, Int.reduceLE, Int.reduceBEq, Int.reduceBNe, Int.reduceToNat]; exact rfl) (by rfl) (by rfl) (by rfl))
      · have : n.toNat - i = 0 := by omega
        rw [this] at hZ3
        simp only [recsGo, List.append_nil] at hZ3
        simp only [rdrB]
        (simp (disch := first | decide | omega | (intros; exact Eq.trans rfl rfl) | (simp only [puri]; done)) only [a27_0, c, vis, visL, visB, fillR, rowsAt, toDs, toD, ↓ops_cons, ↓ops_consz, fzTs, fzLs, rg, rd, o, oz, kc, kb, ks, kx, on, og, od, ogd, A.run, evI, evOpt, evs, evP, argF, V.cs, binD, fzV, fzL, fzVs, dataVs, dataLs, V.data, L.data, unD, fillL, List.take_succ_cons, List.take_zero, List.drop_succ_cons, List.drop_zero, List.cons_append, ne_eq, Nat.reduceLT, Nat.reduceBEq, ↓reduceIte, Nat.reduceEqDiff, Nat.reduceAdd, Nat.reduceMul, Nat.reduceSub, Int.reduceToNat, Nat.reduceLeDiff, Int.reduceNeg, Int.reduceEq, Int.reduceLT, Int.reduceLE, Int.reduceBEq, Int.reduceBNe, Int.reduceToNat, dis])
        rw [hZ3]
        simp [trim, V.refs, L.refs, Box.refs, rdrB]
  have hr0 : rdrB t = .cells [.d (.s t.1), .d (.b t.2)] := rfl
  by_cases c : 64 < n
  · have e : cutB n t1 = (t1.1, true) := by unfold cutB; rw [if_pos c]
    rw [e] at hZ
    simp only [hr0] at h1 ⊢
    have hr1 : rdrB t1 = .cells [.d (.s t1.1), .d (.b t1.2)] := rfl
    simp only [hr1] at h1
    (simp (disch := first | decide | omega | (intros; exact Eq.trans rfl rfl) | (simp only [puri]; done)) only [a27, h1, c, vis, visL, visB, fillR, rowsAt, toDs, toD, ↓ops_cons, ↓ops_consz, fzTs, fzLs, rg, rd, o, oz, kc, kb, ks, kx, on, og, od, ogd, A.run, evI, evOpt, evs, evP, argF, V.cs, binD, fzV, fzL, fzVs, dataVs, dataLs, V.data, L.data, unD, fillL, List.take_succ_cons, List.take_zero, List.drop_succ_cons, List.drop_zero, List.cons_append, ne_eq, Nat.reduceLT, Nat.reduceBEq, ↓reduceIte, Nat.reduceEqDiff, Nat.reduceAdd, Nat.reduceMul, Nat.reduceSub, Int.reduceToNat, Nat.reduceLeDiff, Int.reduceNeg, Int.reduceEq, Int.reduceLT, Int.reduceLE, Int.reduceBEq, Int.reduceBNe, Int.reduceToNat, dis])
    exact main (t1.1, true) _ _ (by simp only []; omega) (fun _ => rfl) hZ (at_headM (by decide) (by simp only [List.map_cons, List.map_nil, vis, visL, visB, fillR, rowsAt, toDs, toD, ↓ops_cons, ↓ops_consz, fzTs, fzLs, rg, rd, o, oz, kc, kb, ks, kx, on, og, od, ogd, A.run, evI, evOpt, evs, evP, argF, V.cs, binD, fzV, fzL, fzVs, dataVs, dataLs, V.data, L.data, unD, fillL, List.take_succ_cons, List.take_zero, List.drop_succ_cons, List.drop_zero, List.cons_append, ne_eq, Nat.reduceLT, Nat.reduceBEq, ↓reduceIte, Nat.reduceEqDiff, Nat.reduceAdd, Nat.reduceMul, Nat.reduceSub, Int.reduceToNat, Nat.reduceLeDiff, Int.reduceNeg, Int.reduceEq, Int.reduceLT, Int.reduceLE, Int.reduceBEq, Int.reduceBNe, Int.reduceToNat]; exact rfl) (by rfl) (by rfl) (by rfl))
  · have e : cutB n t1 = t1 := by unfold cutB; rw [if_neg c]
    rw [e] at hZ
    simp only [hr0] at h1 ⊢
    (simp (disch := first | decide | omega | (intros; exact Eq.trans rfl rfl) | (simp only [puri]; done)) only [a27, h1, c, vis, visL, visB, fillR, rowsAt, toDs, toD, ↓ops_cons, ↓ops_consz, fzTs, fzLs, rg, rd, o, oz, kc, kb, ks, kx, on, og, od, ogd, A.run, evI, evOpt, evs, evP, argF, V.cs, binD, fzV, fzL, fzVs, dataVs, dataLs, V.data, L.data, unD, fillL, List.take_succ_cons, List.take_zero, List.drop_succ_cons, List.drop_zero, List.cons_append, ne_eq, Nat.reduceLT, Nat.reduceBEq, ↓reduceIte, Nat.reduceEqDiff, Nat.reduceAdd, Nat.reduceMul, Nat.reduceSub, Int.reduceToNat, Nat.reduceLeDiff, Int.reduceNeg, Int.reduceEq, Int.reduceLT, Int.reduceLE, Int.reduceBEq, Int.reduceBNe, Int.reduceToNat, dis])
    exact main t1 _ _ (by omega) (fun h => absurd h c) hZ (at_headM (by decide) (by simp only [List.map_cons, List.map_nil, vis, visL, visB, fillR, rowsAt, toDs, toD, ↓ops_cons, ↓ops_consz, fzTs, fzLs, rg, rd, o, oz, kc, kb, ks, kx, on, og, od, ogd, A.run, evI, evOpt, evs, evP, argF, V.cs, binD, fzV, fzL, fzVs, dataVs, dataLs, V.data, L.data, unD, fillL, List.take_succ_cons, List.take_zero, List.drop_succ_cons, List.drop_zero, List.cons_append, ne_eq, Nat.reduceLT, Nat.reduceBEq, ↓reduceIte, Nat.reduceEqDiff, Nat.reduceAdd, Nat.reduceMul, Nat.reduceSub, Int.reduceToNat, Nat.reduceLeDiff, Int.reduceNeg, Int.reduceEq, Int.reduceLT, Int.reduceLE, Int.reduceBEq, Int.reduceBNe, Int.reduceToNat]; exact rfl) (by rfl) (by rfl) (by rfl))
end Go.Proofs.Ytogleebbifpijaa
