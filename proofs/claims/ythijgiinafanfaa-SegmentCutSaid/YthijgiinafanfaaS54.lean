import Derived.Test.YthijgiinafanfaaS53
set_option linter.unusedSimpArgs false
set_option linter.unusedVariables false
namespace Go.Proofs.Ythijgiinafanfaa
open Go.Vi
set_option linter.unusedSimpArgs false

abbrev Mk := Int × Int
def mkE (m : Mk) : List D := [.i .i64 m.1, .i .i64 m.2]
theorem mkE_len (m : Mk) : (mkE m).length = 2 := Eq.trans rfl rfl
theorem mkE_tk (m : Mk) : (mkE m).take 2 = mkE m := Eq.trans rfl rfl
theorem mkE_0 (m : Mk) : (mkE m)[0]? = some (.i .i64 m.1) := Eq.trans rfl rfl
def addM (l : List Mk) (base every : Int) (m : Mk) : List Mk := if (m.1 - base).tmod every = 0 then l ++ [m] else l

set_option maxRecDepth 8000 in
theorem add_spec (l : List Mk) (hl : l.length ≤ 1000000) (base every : Int) (m : Mk) (hb : 0 ≤ base ∧ base ≤ 1099511627776) (he : 1 ≤ every ∧ every ≤ 256) (hm : 0 ≤ m.1 ∧ m.1 ≤ 4611686018427387904) :
    call 21 [vl (l.map mkE), vi base, vi every, .agg [.d (.i .i64 m.1), .d (.i .i64 m.2)]] [] = some (vl ((addM l base every m).map mkE), []) := by
  apply enterS s21 rfl
  have hw : IntKind.i64.wrap (m.1 - base) = m.1 - base := wrap_i (by omega)
  have hne : (every = 0) = False := by simp; omega
  unfold addM
  by_cases c : (m.1 - base).tmod every = 0
  · (simp (disch := first | decide | omega | (intros; exact Eq.trans rfl rfl) | (simp only [puri]; done)) only [a21, hw, hne, c, mkE_len, mkE_tk, vis, visL, visB, fillR, rowsAt, toDs, toD, ↓ops_cons, ↓ops_consz, fzTs, fzLs, rg, rd, o, oz, kc, kb, ks, kx, on, og, od, ogd, A.run, evI, evOpt, evs, evP, argF, V.cs, binD, fzV, fzL, fzVs, dataVs, dataLs, V.data, L.data, unD, fillL, List.take_succ_cons, List.take_zero, List.drop_succ_cons, List.drop_zero, List.cons_append, ne_eq, Nat.reduceLT, Nat.reduceBEq, ↓reduceIte, Nat.reduceEqDiff, Nat.reduceAdd, Nat.reduceMul, Nat.reduceSub, Int.reduceToNat, Nat.reduceLeDiff, Int.reduceNeg, Int.reduceEq, Int.reduceLT, Int.reduceLE, Int.reduceBEq, Int.reduceBNe, Int.reduceToNat, dis])
    simp [mkE]
  · (simp (disch := first | decide | omega | (intros; exact Eq.trans rfl rfl) | (simp only [puri]; done)) only [a21, hw, hne, c, mkE_len, mkE_tk, vis, visL, visB, fillR, rowsAt, toDs, toD, ↓ops_cons, ↓ops_consz, fzTs, fzLs, rg, rd, o, oz, kc, kb, ks, kx, on, og, od, ogd, A.run, evI, evOpt, evs, evP, argF, V.cs, binD, fzV, fzL, fzVs, dataVs, dataLs, V.data, L.data, unD, fillL, List.take_succ_cons, List.take_zero, List.drop_succ_cons, List.drop_zero, List.cons_append, ne_eq, Nat.reduceLT, Nat.reduceBEq, ↓reduceIte, Nat.reduceEqDiff, Nat.reduceAdd, Nat.reduceMul, Nat.reduceSub, Int.reduceToNat, Nat.reduceLeDiff, Int.reduceNeg, Int.reduceEq, Int.reduceLT, Int.reduceLE, Int.reduceBEq, Int.reduceBNe, Int.reduceToNat, dis])
    try simp
set_option maxRecDepth 8000 in
theorem refAdd_spec (l : List Mk) (hl : l.length ≤ 1000000) (base every : Int) (m : Mk) (hb : 0 ≤ base ∧ base ≤ 1099511627776) (he : 1 ≤ every ∧ every ≤ 256) (hm : 0 ≤ m.1 ∧ m.1 ≤ 4611686018427387904) :
    call 22 [vl (l.map mkE), vi base, vi every, .agg [.d (.i .i64 m.1), .d (.i .i64 m.2)]] [] = some (vl ((addM l base every m).map mkE), []) := by
  apply enterS s22 rfl
  have hw : IntKind.i64.wrap (m.1 - base) = m.1 - base := wrap_i (by omega)
  have hne : (every = 0) = False := by simp; omega
  unfold addM
  by_cases c : (m.1 - base).tmod every = 0
  · (simp (disch := first | decide | omega | (intros; exact Eq.trans rfl rfl) | (simp only [puri]; done)) only [a22, hw, hne, c, mkE_len, mkE_tk, vis, visL, visB, fillR, rowsAt, toDs, toD, ↓ops_cons, ↓ops_consz, fzTs, fzLs, rg, rd, o, oz, kc, kb, ks, kx, on, og, od, ogd, A.run, evI, evOpt, evs, evP, argF, V.cs, binD, fzV, fzL, fzVs, dataVs, dataLs, V.data, L.data, unD, fillL, List.take_succ_cons, List.take_zero, List.drop_succ_cons, List.drop_zero, List.cons_append, ne_eq, Nat.reduceLT, Nat.reduceBEq, ↓reduceIte, Nat.reduceEqDiff, Nat.reduceAdd, Nat.reduceMul, Nat.reduceSub, Int.reduceToNat, Nat.reduceLeDiff, Int.reduceNeg, Int.reduceEq, Int.reduceLT, Int.reduceLE, Int.reduceBEq, Int.reduceBNe, Int.reduceToNat, dis])
    simp [mkE]
    try exact List.take_of_length_le (by simp)
  · (simp (disch := first | decide | omega | (intros; exact Eq.trans rfl rfl) | (simp only [puri]; done)) only [a22, hw, hne, c, mkE_len, mkE_tk, vis, visL, visB, fillR, rowsAt, toDs, toD, ↓ops_cons, ↓ops_consz, fzTs, fzLs, rg, rd, o, oz, kc, kb, ks, kx, on, og, od, ogd, A.run, evI, evOpt, evs, evP, argF, V.cs, binD, fzV, fzL, fzVs, dataVs, dataLs, V.data, L.data, unD, fillL, List.take_succ_cons, List.take_zero, List.drop_succ_cons, List.drop_zero, List.cons_append, ne_eq, Nat.reduceLT, Nat.reduceBEq, ↓reduceIte, Nat.reduceEqDiff, Nat.reduceAdd, Nat.reduceMul, Nat.reduceSub, Int.reduceToNat, Nat.reduceLeDiff, Int.reduceNeg, Int.reduceEq, Int.reduceLT, Int.reduceLE, Int.reduceBEq, Int.reduceBNe, Int.reduceToNat, dis])
    try simp
theorem refScan_spec (s : List UInt8) (hs : s.length ≤ 1000000) (b : Int) (hb : -9223372036854775808 ≤ b ∧ b < 9223372036854775808) : call 9 [vs s, vi b] [] = some (scanV (scanS s b), []) := by
  apply enterS s9 rfl
  have hp := places_spec s hs b hb
  unfold placesV at hp
  (simp (disch := first | decide | omega | (intros; exact Eq.trans rfl rfl) | (simp only [puri]; done)) only [a9, hp, scanV, vis, visL, visB, fillR, rowsAt, toDs, toD, ↓ops_cons, ↓ops_consz, fzTs, fzLs, rg, rd, o, oz, kc, kb, ks, kx, on, og, od, ogd, A.run, evI, evOpt, evs, evP, argF, V.cs, binD, fzV, fzL, fzVs, dataVs, dataLs, V.data, L.data, unD, fillL, List.take_succ_cons, List.take_zero, List.drop_succ_cons, List.drop_zero, List.cons_append, ne_eq, Nat.reduceLT, Nat.reduceBEq, ↓reduceIte, Nat.reduceEqDiff, Nat.reduceAdd, Nat.reduceMul, Nat.reduceSub, Int.reduceToNat, Nat.reduceLeDiff, Int.reduceNeg, Int.reduceEq, Int.reduceLT, Int.reduceLE, Int.reduceBEq, Int.reduceBNe, Int.reduceToNat, dis])

def readL (l : List Rec) (off : Int) : V := match l.find? (fun r => decide (r.at_ = off)) with | some r => .tup [(true, r.enc.map .d), (false, [.d (.i .i64 0)])] | none => .tup [(true, [.d (.i .i64 0), .d (.i .i64 0), .d (.s [])]), (false, [.d (.i .i64 6)])]
def recE (x : Rec × Nat) : List D := x.1.enc
theorem recE_len (x : Rec × Nat) : (recE x).length = 3 := Eq.trans rfl rfl
theorem placesF_len {s : List UInt8} : ∀ (f a : Nat) (b : Int), a ≤ s.length → (placesF f s a b).1.length + a ≤ s.length := by
  intro f
  induction f with
  | zero => intro a b h; simpa [placesF] using h
  | succ f ih =>
    intro a b h
    rcases Nat.lt_or_ge a s.length with hal | hal
    · obtain ⟨⟨t, n, e⟩, hx⟩ : ∃ x, nextF s a = x := ⟨_, rfl⟩
      by_cases he : e = 0
      · subst he
        have := nextF_ok hx
        by_cases hg : (getR t).2 = 0
        · by_cases ho : (getR t).1.at_ = b
          · rw [placesF_step hal hx hg ho]
            have := ih n (b + 1) (by omega)
            simp only [List.length_cons]; omega
          · rw [placesF_off hal hx hg ho]; simpa using h
        · rw [placesF_bad hal hx hg]; simpa using h
      · rw [placesF_stop hal hx he]; simpa using h
    · rw [placesF_end hal]; simpa using h
theorem scanS_len (s : List UInt8) (b : Int) : (scanS s b).1.length ≤ s.length := by
  unfold scanS
  split
  · have := placesF_len (s := s) (s.length + 1) 0 b (Nat.zero_le _); omega
  · simp
set_option maxRecDepth 8000 in
theorem segRefRead (s : List UInt8) (hs : s.length ≤ 1000000) (b off : Int) (hb : -9223372036854775808 ≤ b ∧ b < 9223372036854775808) : call 15 [vs s, vi b, vi off] [] = some (readL ((scanS s b).1.map (·.1)) off, []) := by
  apply enterS s15 rfl
  have hp := refScan_spec s hs b hb
  have hle := scanS_len s b
  unfold scanV at hp
  obtain ⟨⟨l, p, e⟩, hx⟩ : ∃ x, scanS s b = x := ⟨_, rfl⟩
  rw [hx] at hp hle ⊢
  simp only at hp hle ⊢
  (simp (disch := first | decide | omega | (intros; exact Eq.trans rfl rfl) | (simp only [puri]; done)) only [a15, hp, vis, visL, visB, fillR, rowsAt, toDs, toD, ↓ops_cons, ↓ops_consz, fzTs, fzLs, rg, rd, o, oz, kc, kb, ks, kx, on, og, od, ogd, A.run, evI, evOpt, evs, evP, argF, V.cs, binD, fzV, fzL, fzVs, dataVs, dataLs, V.data, L.data, unD, fillL, List.take_succ_cons, List.take_zero, List.drop_succ_cons, List.drop_zero, List.cons_append, ne_eq, Nat.reduceLT, Nat.reduceBEq, ↓reduceIte, Nat.reduceEqDiff, Nat.reduceAdd, Nat.reduceMul, Nat.reduceSub, Int.reduceToNat, Nat.reduceLeDiff, Int.reduceNeg, Int.reduceEq, Int.reduceLT, Int.reduceLE, Int.reduceBEq, Int.reduceBNe, Int.reduceToNat, dis])
  refine loop_box (σ := Nat) (fun i => l.length - i) (fun i => i ≤ l.length ∧ (l.map (·.1)).find? (fun r => decide (r.at_ = off)) = ((l.drop i).map (·.1)).find? (fun r => decide (r.at_ = off))) (fun i => [vi off, .one (.p 0 0), vl (l.map recE), vi i]) (fun i => [.cells [.d (.i .i64 0), .d (.i .i64 0), .d (.s [])]])
    (fun i => (readL (l.map (·.1)) off, ([] : Hp))) ?_ 0 ⟨Nat.zero_le _, rfl⟩ _ _ ?_
  rotate_left
  · exact (at_head2 (by decide) (by simp only [List.map_cons, List.map_nil, vis, visL, visB, fillR, rowsAt, toDs, toD, ↓ops_cons, ↓ops_consz, fzTs, fzLs, rg, rd, o, oz, kc, kb, ks, kx, on, og, od, ogd, A.run, evI, evOpt, evs, evP, argF, V.cs, binD, fzV, fzL, fzVs, dataVs, dataLs, V.data, L.data, unD, fillL, List.take_succ_cons, List.take_zero, List.drop_succ_cons, List.drop_zero, List.cons_append, ne_eq, Nat.reduceLT, Nat.reduceBEq, ↓reduceIte, Nat.reduceEqDiff, Nat.reduceAdd, Nat.reduceMul, Nat.reduceSub, Int.reduceToNat, Nat.reduceLeDiff, Int.reduceNeg, Int.reduceEq, Int.reduceLT, Int.reduceLE, Int.reduceBEq, Int.reduceBNe, Int.reduceToNat]; exact rfl) (by simp [idsOf, reach, place_cons, place_nil, canonH, V.ren, L.ren, Box.ren, V.refs, L.refs, Box.refs, recE]) (by simp [idsOf, reach, place_cons, place_nil, canonH, V.ren, L.ren, Box.ren, V.refs, L.refs, Box.refs, recE]))
  rintro i ⟨hi, hf⟩ R hR
  rcases Nat.lt_or_ge i l.length with h | h
  · have g1 : (l.map recE)[i]? = some (recE l[i]) := by simp [h]
    have g2 : (recE l[i])[0]? = some (.i .i64 l[i].1.at_) := rfl
    rw [List.drop_eq_getElem_cons h, List.map_cons, List.find?_cons] at hf
    by_cases c : l[i].1.at_ = off
    · rw [decide_eq_true c] at hf
      simp only at hf
      (simp (disch := first | decide | omega | (intros; exact Eq.trans rfl rfl) | (simp only [puri]; done)) only [a15_0, g1, g2, c, recE, Rec.enc, List.map_cons, List.map_nil, List.getElem?_cons_zero, vis, visL, visB, fillR, rowsAt, toDs, toD, ↓ops_cons, ↓ops_consz, fzTs, fzLs, rg, rd, o, oz, kc, kb, ks, kx, on, og, od, ogd, A.run, evI, evOpt, evs, evP, argF, V.cs, binD, fzV, fzL, fzVs, dataVs, dataLs, V.data, L.data, unD, fillL, List.take_succ_cons, List.take_zero, List.drop_succ_cons, List.drop_zero, List.cons_append, ne_eq, Nat.reduceLT, Nat.reduceBEq, ↓reduceIte, Nat.reduceEqDiff, Nat.reduceAdd, Nat.reduceMul, Nat.reduceSub, Int.reduceToNat, Nat.reduceLeDiff, Int.reduceNeg, Int.reduceEq, Int.reduceLT, Int.reduceLE, Int.reduceBEq, Int.reduceBNe, Int.reduceToNat, dis])
      simp [readL, hf, Rec.enc, c]
    · rw [decide_eq_false c] at hf
      simp only at hf
      (simp (disch := first | decide | omega | (intros; exact Eq.trans rfl rfl) | (simp only [puri]; done)) only [a15_0, g1, g2, c, recE_len, vis, visL, visB, fillR, rowsAt, toDs, toD, ↓ops_cons, ↓ops_consz, fzTs, fzLs, rg, rd, o, oz, kc, kb, ks, kx, on, og, od, ogd, A.run, evI, evOpt, evs, evP, argF, V.cs, binD, fzV, fzL, fzVs, dataVs, dataLs, V.data, L.data, unD, fillL, List.take_succ_cons, List.take_zero, List.drop_succ_cons, List.drop_zero, List.cons_append, ne_eq, Nat.reduceLT, Nat.reduceBEq, ↓reduceIte, Nat.reduceEqDiff, Nat.reduceAdd, Nat.reduceMul, Nat.reduceSub, Int.reduceToNat, Nat.reduceLeDiff, Int.reduceNeg, Int.reduceEq, Int.reduceLT, Int.reduceLE, Int.reduceBEq, Int.reduceBNe, Int.reduceToNat, dis])
      exact hR (i + 1) (by omega) ⟨by omega, hf⟩ _ _ (at_head2 (by decide) (by simp only [List.map_cons, List.map_nil, vis, visL, visB, fillR, rowsAt, toDs, toD, ↓ops_cons, ↓ops_consz, fzTs, fzLs, rg, rd, o, oz, kc, kb, ks, kx, on, og, od, ogd, A.run, evI, evOpt, evs, evP, argF, V.cs, binD, fzV, fzL, fzVs, dataVs, dataLs, V.data, L.data, unD, fillL, List.take_succ_cons, List.take_zero, List.drop_succ_cons, List.drop_zero, List.cons_append, ne_eq, Nat.reduceLT, Nat.reduceBEq, ↓reduceIte, Nat.reduceEqDiff, Nat.reduceAdd, Nat.reduceMul, Nat.reduceSub, Int.reduceToNat, Nat.reduceLeDiff, Int.reduceNeg, Int.reduceEq, Int.reduceLT, Int.reduceLE, Int.reduceBEq, Int.reduceBNe, Int.reduceToNat]; exact rfl) (by simp [idsOf, reach, place_cons, place_nil, canonH, V.ren, L.ren, Box.ren, V.refs, L.refs, Box.refs, true_and]) (by simp [idsOf, reach, place_cons, place_nil, canonH, V.ren, L.ren, Box.ren, V.refs, L.refs, Box.refs, true_and]))
  · rw [List.drop_eq_nil_of_le h] at hf
    (simp (disch := first | decide | omega | (intros; exact Eq.trans rfl rfl) | (simp only [puri]; done)) only [a15_0, vis, visL, visB, fillR, rowsAt, toDs, toD, ↓ops_cons, ↓ops_consz, fzTs, fzLs, rg, rd, o, oz, kc, kb, ks, kx, on, og, od, ogd, A.run, evI, evOpt, evs, evP, argF, V.cs, binD, fzV, fzL, fzVs, dataVs, dataLs, V.data, L.data, unD, fillL, List.take_succ_cons, List.take_zero, List.drop_succ_cons, List.drop_zero, List.cons_append, ne_eq, Nat.reduceLT, Nat.reduceBEq, ↓reduceIte, Nat.reduceEqDiff, Nat.reduceAdd, Nat.reduceMul, Nat.reduceSub, Int.reduceToNat, Nat.reduceLeDiff, Int.reduceNeg, Int.reduceEq, Int.reduceLT, Int.reduceLE, Int.reduceBEq, Int.reduceBNe, Int.reduceToNat, dis])
    simp [readL, hf]
def indexM (l : List (Rec × Nat)) (base every : Int) : List Mk := l.foldl (fun o x => addM o base every (x.1.at_, x.2)) []
end Go.Proofs.Ythijgiinafanfaa
