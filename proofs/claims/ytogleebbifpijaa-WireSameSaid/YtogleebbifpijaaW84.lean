import Derived.Test.YtogleebbifpijaaW83
import Derived.Test.YtogleebbifpijaaVic
set_option linter.unusedSimpArgs false
set_option linter.unusedVariables false
namespace Go.Proofs.Ytogleebbifpijaa
open Go.Vi
set_option linter.unusedSimpArgs false

theorem cnumI (S : List UInt8) (a : Nat) (b : Bool) (t : RdS) (ht : t = (S.drop a, b)) (hl : S.length ≤ 1000000) (ha : a ≤ S.length) :
    ∃ a', a' ≤ S.length ∧ (num t).2 = (S.drop a', (num t).2.2) ∧ ∀ (B : Box) (T : Hp), callIso call 48 [.one (.p 1 0)] (B :: .cells [.d (.s S), .d (.i .i64 (a : Int)), .d (.b b)] :: T) = some (vi (num t).1, B :: .cells [.d (.s S), .d (.i .i64 (a' : Int)), .d (.b (num t).2.2)] :: T) := by
  subst ht
  obtain ⟨a', h1, h2, h3⟩ := cnum_spec S a b hl ha
  refine ⟨a', h1, Prod.ext h2 rfl, fun B T => ?_⟩
  exact iso_at (ids := [1]) rfl rfl rfl h3 (by simp [setAll, curB, Box.ren, V.ren, L.ren])
theorem ctxtI (S : List UInt8) (a : Nat) (b : Bool) (n : Int) (hn : natI n) (t : RdS) (ht : t = (S.drop a, b)) (hl : S.length ≤ 1000000) (ha : a ≤ S.length) :
    ∃ a', a' ≤ S.length ∧ (txt n t).2 = (S.drop a', (txt n t).2.2) ∧ (∀ (B : Box) (T : Hp), callIso call 49 [.one (.p 1 0), vi n] (B :: .cells [.d (.s S), .d (.i .i64 (a : Int)), .d (.b b)] :: T) = some (vs (txt n t).1, B :: .cells [.d (.s S), .d (.i .i64 (a' : Int)), .d (.b (txt n t).2.2)] :: T)) ∧
      call 49 [.one (.p 0 0), vi n] [.cells [.d (.s S), .d (.i .i64 (a : Int)), .d (.b b)]] = some (vs (txt n t).1, [.cells [.d (.s S), .d (.i .i64 (a' : Int)), .d (.b (txt n t).2.2)]]) := by
  subst ht
  obtain ⟨a', h1, h2, h3⟩ := ctext_spec S a b n hn hl ha
  refine ⟨a', h1, Prod.ext h2 rfl, fun B T => ?_, h3⟩
  exact iso_at (ids := [1]) rfl rfl rfl h3 (by simp [setAll, curB, Box.ren, V.ren, L.ren])
theorem cnumS (t : RdS) (S : List UInt8) (a i j : Nat) (hj : j = i + 1) (ht : sq t i = (S.drop a, (sq t i).2)) (hl : S.length ≤ 1000000) (ha : a ≤ S.length) :
    ∃ a', a' ≤ S.length ∧ sq t j = (S.drop a', (sq t j).2) ∧ ∀ (B : Box) (T : Hp), callIso call 48 [.one (.p 1 0)] (B :: .cells [.d (.s S), .d (.i .i64 (a : Int)), .d (.b (sq t i).2)] :: T) = some (vi (vq t i), B :: .cells [.d (.s S), .d (.i .i64 (a' : Int)), .d (.b (sq t j).2)] :: T) := by
  subst hj
  exact cnumI S a (sq t i).2 (sq t i) ht hl ha
def rcL (l : List Rec) : L := match l with | [] => .ns | _ => .sl 3 3 0 l.length
def rcB (l : List Rec) : Hp := match l with | [] => [] | _ => [.arr 3 (l.map Rec.enc) 0]
def bodyOk (s : List UInt8) (m : Msg) (ok : Bool) : Prop := finM (parseW (s, false)) = if ok = true ∧ rightM m = true then (m, 0) else (zmsg, 3)
set_option maxRecDepth 8000 in
set_option maxHeartbeats 8000000 in
theorem body16_spec (s : List UInt8) (hs : s.length ≤ 100000) : ∃ m ok, call 30 [vs s] [] = some (.tup [(true, msgL m), (false, [.d (.b ok)])], []) ∧ m.recs.length ≤ 1000 ∧ bodyOk s m ok := by
  obtain ⟨t, ht⟩ : ∃ t : RdS, t = (s, false) := ⟨_, rfl⟩
  have hsl := sq_len t
  have htl : t.1.length ≤ 100000 := by rw [ht]; exact hs
  have h0 : (sq t 0).2 = false := by rw [ht]; rfl
  obtain ⟨a1, b1, d1, q1⟩ := cnumS t s 0 0 1 rfl (by rw [ht]; rfl) (by omega) (Nat.zero_le _)
  obtain ⟨a2, b2, d2, q2⟩ := cnumS t s a1 1 2 rfl d1 (by omega) b1
  obtain ⟨a3, b3, d3, q3⟩ := cnumS t s a2 2 3 rfl d2 (by omega) b2
  obtain ⟨a4, b4, d4, q4⟩ := cnumS t s a3 3 4 rfl d3 (by omega) b3
  obtain ⟨a5, b5, d5, q5⟩ := cnumS t s a4 4 5 rfl d4 (by omega) b4
  obtain ⟨a6, b6, d6, q6⟩ := cnumS t s a5 5 6 rfl d5 (by omega) b5
  obtain ⟨a7, b7, d7, q7⟩ := cnumS t s a6 6 7 rfl d6 (by omega) b6
  rw [h0] at q1
  have q1' : ∀ (B : Box) (T : Hp), callIso call 48 [.one (.p 1 0)] (B :: .cells [.d (.s s), .d (.i .i64 0), .d (.b false)] :: T) = some (vi (vq t 0), B :: .cells [.d (.s s), .d (.i .i64 (a1 : Int)), .d (.b (sq t 1).2)] :: T) := q1
  by_cases k1 : vq t 0 = 1
  · obtain ⟨a8, b8, d8, q8⟩ := cnumS t s a7 7 8 rfl d7 (by omega) b7
    obtain ⟨a9, b9, d9, q9⟩ := cnumS t s a8 8 9 rfl d8 (by omega) b8
    obtain ⟨a10, b10, d10, q10⟩ := cnumS t s a9 9 10 rfl d9 (by omega) b9
    have hpar : parseW t = (⟨vq t 0, vq t 1, vq t 2, vq t 3, vq t 4, vq t 5, vq t 6, vq t 7, 0, vq t 8, vq t 9, 0, 0, [], []⟩, sq t 10) := by unfold parseW; rw [if_pos k1]; rfl
    rw [d10] at hpar
    refine ⟨⟨vq t 0, vq t 1, vq t 2, vq t 3, vq t 4, vq t 5, vq t 6, vq t 7, 0, vq t 8, vq t 9, 0, 0, [], []⟩, decide ((sq t 10).2 = false ∧ s.length = a10), ?_, by simp, ?_⟩
    · apply enterS s30 rfl
      obtain ⟨W, hW⟩ : ∃ W : V × Hp, W = (.tup [(true, msgL ⟨vq t 0, vq t 1, vq t 2, vq t 3, vq t 4, vq t 5, vq t 6, vq t 7, 0, vq t 8, vq t 9, 0, 0, [], []⟩), (false, [.d (.b (decide ((sq t 10).2 = false ∧ s.length = a10)))])], []) := ⟨_, rfl⟩
      rw [← hW]
      cases hb : (sq t 10).2 with
      | true =>
        rw [hb] at q10 hW
        (simp (disch := first | decide | omega | (intros; exact Eq.trans rfl rfl) | (simp only [puri]; done)) only [a30, q1', q2, q3, q4, q5, q6, q7, q8, q9, q10, (eq_true k1), vis, visL, visB, fillR, rowsAt, toDs, toD, ↓ops_cons, ↓ops_consz, fzTs, fzLs, rg, rd, o, oz, kc, kb, ks, kx, on, og, od, ogd, A.run, evI, evOpt, evs, evP, argF, V.cs, binD, fzV, fzL, fzVs, dataVs, dataLs, V.data, L.data, unD, fillL, List.take_succ_cons, List.take_zero, List.drop_succ_cons, List.drop_zero, List.cons_append, ne_eq, Nat.reduceLT, Nat.reduceBEq, ↓reduceIte, Nat.reduceEqDiff, Nat.reduceAdd, Nat.reduceMul, Nat.reduceSub, Int.reduceToNat, Nat.reduceLeDiff, Int.reduceNeg, Int.reduceEq, Int.reduceLT, Int.reduceLE, Int.reduceBEq, Int.reduceBNe, Int.reduceToNat, dis, vdr, A.kind, A.xs, optX])
        rw [hW]
        try simp [msgL]
      | false =>
        rw [hb] at q10 hW
        by_cases c : (a10 : Int) = s.length
        · (simp (disch := first | decide | omega | (intros; exact Eq.trans rfl rfl) | (simp only [puri]; done)) only [a30, q1', q2, q3, q4, q5, q6, q7, q8, q9, q10, (eq_true k1), c, vis, visL, visB, fillR, rowsAt, toDs, toD, ↓ops_cons, ↓ops_consz, fzTs, fzLs, rg, rd, o, oz, kc, kb, ks, kx, on, og, od, ogd, A.run, evI, evOpt, evs, evP, argF, V.cs, binD, fzV, fzL, fzVs, dataVs, dataLs, V.data, L.data, unD, fillL, List.take_succ_cons, List.take_zero, List.drop_succ_cons, List.drop_zero, List.cons_append, ne_eq, Nat.reduceLT, Nat.reduceBEq, ↓reduceIte, Nat.reduceEqDiff, Nat.reduceAdd, Nat.reduceMul, Nat.reduceSub, Int.reduceToNat, Nat.reduceLeDiff, Int.reduceNeg, Int.reduceEq, Int.reduceLT, Int.reduceLE, Int.reduceBEq, Int.reduceBNe, Int.reduceToNat, dis, vdr, A.kind, A.xs, optX])
          rw [hW]
          have c' : s.length = a10 := by omega
          try simp [msgL, c']
        · (simp (disch := first | decide | omega | (intros; exact Eq.trans rfl rfl) | (simp only [puri]; done)) only [a30, q1', q2, q3, q4, q5, q6, q7, q8, q9, q10, (eq_true k1), c, vis, visL, visB, fillR, rowsAt, toDs, toD, ↓ops_cons, ↓ops_consz, fzTs, fzLs, rg, rd, o, oz, kc, kb, ks, kx, on, og, od, ogd, A.run, evI, evOpt, evs, evP, argF, V.cs, binD, fzV, fzL, fzVs, dataVs, dataLs, V.data, L.data, unD, fillL, List.take_succ_cons, List.take_zero, List.drop_succ_cons, List.drop_zero, List.cons_append, ne_eq, Nat.reduceLT, Nat.reduceBEq, ↓reduceIte, Nat.reduceEqDiff, Nat.reduceAdd, Nat.reduceMul, Nat.reduceSub, Int.reduceToNat, Nat.reduceLeDiff, Int.reduceNeg, Int.reduceEq, Int.reduceLT, Int.reduceLE, Int.reduceBEq, Int.reduceBNe, Int.reduceToNat, dis, vdr, A.kind, A.xs, optX])
          rw [hW]
          have c' : ¬ s.length = a10 := by omega
          try simp [msgL, c']
    · unfold bodyOk
      rw [← ht, hpar]
      cases hb : (sq t 10).2 with
      | true => simp [finM]
      | false =>
        by_cases c : s.length = a10
        · have : s.drop a10 = [] := List.drop_eq_nil_of_le (by omega)
          simp [finM, this, c]
        · have : s.drop a10 ≠ [] := by intro h; rw [List.drop_eq_nil_iff] at h; omega
          simp [finM, this, c]
  · by_cases k2 : vq t 0 = 2
    · obtain ⟨a8, b8, d8, q8⟩ := cnumS t s a7 7 8 rfl d7 (by omega) b7
      obtain ⟨a9, b9, d9, q9⟩ := cnumS t s a8 8 9 rfl d8 (by omega) b8
      have hn := vq_nat t 8
      unfold natI at hn
      have hpar : parseW t = (⟨vq t 0, vq t 1, vq t 2, vq t 3, vq t 4, vq t 5, vq t 6, 0, vq t 7, 0, 0, 0, 0, [], (recsR (vq t 6) (sq t 8)).1⟩, (recsR (vq t 6) (sq t 8)).2) := by unfold parseW; rw [if_neg k1, if_pos k2]; rfl
      have hrr : recsR (vq t 6) (sq t 8) = recsGo (vq t 8).toNat (vq t 6) (cutB (vq t 8) (sq t 9)) := rfl
      obtain ⟨⟨rs, tN⟩, hG⟩ : ∃ x, recsGo (vq t 8).toNat (vq t 6) (sq t 9) = x := ⟨_, rfl⟩
      obtain ⟨M, hM⟩ : ∃ M : Msg, M = if 64 < vq t 8 then zmsg else ⟨vq t 0, vq t 1, vq t 2, vq t 3, vq t 4, vq t 5, vq t 6, 0, vq t 7, 0, 0, 0, 0, [], rs⟩ := ⟨_, rfl⟩
      obtain ⟨ok, hok⟩ : ∃ ok : Bool, ok = (if 64 < vq t 8 then false else decide (tN.2 = false ∧ tN.1 = [])) := ⟨_, rfl⟩
      have hrl : vq t 8 ≤ 64 → rs.length ≤ 1000 := by
        intro h
        have := (recsGo_all (vq t 8).toNat (vq t 6) (sq t 9) (by have := hsl 9; omega)).1
        rw [hG] at this
        simp only at this; omega
      refine ⟨M, ok, ?_, ?_, ?_⟩
      · apply enterS s30 rfl
        obtain ⟨W, hW⟩ : ∃ W : V × Hp, W = (.tup [(true, msgL M), (false, [.d (.b ok)])], []) := ⟨_, rfl⟩
        rw [← hW]
        (simp (disch := first | decide | omega | (intros; exact Eq.trans rfl rfl) | (simp only [puri]; done)) only [a30, q1', q2, q3, q4, q5, q6, q7, q8, q9, k1, (eq_true k2), vis, visL, visB, fillR, rowsAt, toDs, toD, ↓ops_cons, ↓ops_consz, fzTs, fzLs, rg, rd, o, oz, kc, kb, ks, kx, on, og, od, ogd, A.run, evI, evOpt, evs, evP, argF, V.cs, binD, fzV, fzL, fzVs, dataVs, dataLs, V.data, L.data, unD, fillL, List.take_succ_cons, List.take_zero, List.drop_succ_cons, List.drop_zero, List.cons_append, ne_eq, Nat.reduceLT, Nat.reduceBEq, ↓reduceIte, Nat.reduceEqDiff, Nat.reduceAdd, Nat.reduceMul, Nat.reduceSub, Int.reduceToNat, Nat.reduceLeDiff, Int.reduceNeg, Int.reduceEq, Int.reduceLT, Int.reduceLE, Int.reduceBEq, Int.reduceBNe, Int.reduceToNat, dis, vdr, A.kind, A.xs, optX])
        refine loop_box (σ := Nat × (Nat × Bool) × List Rec) (fun q => 65 - q.1) (fun q => q.1 ≤ 65 ∧ q.2.2.length = q.1 ∧ q.2.1.1 ≤ s.length ∧ (vq t 8 ≤ 64 → (rs, tN) = (q.2.2 ++ (recsGo ((vq t 8).toNat - q.1) (vq t 6 + q.1) (s.drop q.2.1.1, q.2.1.2)).1, (recsGo ((vq t 8).toNat - q.1) (vq t 6 + q.1) (s.drop q.2.1.1, q.2.1.2)).2)))
          (fun q => [vs s, V.one (.p 0 0), V.one (.p 1 0), V.one (.p 2 0), vi (vq t 8), vi q.1]) (fun q => [.cells [.d (.i .i64 0), .d (.i .i64 0), .d (.i .i64 0), .d (.i .i64 0), .d (.i .i64 0), .d (.i .i64 0), .d (.i .i64 0), .d (.i .i64 0), .d (.i .i64 0), .d (.i .i64 0), .d (.i .i64 0), .d (.i .i64 0), .d (.i .u32 0), .d (.s []), .ns], .cells [.d (.s s), .d (.i .i64 (q.2.1.1 : Int)), .d (.b q.2.1.2)], .cells [.d (.i .i64 (vq t 0)), .d (.i .i64 (vq t 1)), .d (.i .i64 (vq t 2)), .d (.i .i64 (vq t 3)), .d (.i .i64 (vq t 4)), .d (.i .i64 (vq t 5)), .d (.i .i64 (vq t 6)), .d (.i .i64 0), .d (.i .i64 (vq t 7)), .d (.i .i64 0), .d (.i .i64 0), .d (.i .i64 0), .d (.i .u32 0), .d (.s []), rcL q.2.2]] ++ rcB q.2.2) (fun _ => W) ?_ (0, (a9, (sq t 9).2), []) ⟨Nat.zero_le _, rfl, b9, fun _ => by simp only [Nat.sub_zero, List.nil_append]; rw [← d9, ← hG]; simp⟩ _ _ ?_
        rotate_left
        · exact (at_headM (by decide) (by simp only [List.map_cons, List.map_nil, vis, visL, visB, fillR, rowsAt, toDs, toD, ↓ops_cons, ↓ops_consz, fzTs, fzLs, rg, rd, o, oz, kc, kb, ks, kx, on, og, od, ogd, A.run, evI, evOpt, evs, evP, argF, V.cs, binD, fzV, fzL, fzVs, dataVs, dataLs, V.data, L.data, unD, fillL, List.take_succ_cons, List.take_zero, List.drop_succ_cons, List.drop_zero, List.cons_append, ne_eq, Nat.reduceLT, Nat.reduceBEq, ↓reduceIte, Nat.reduceEqDiff, Nat.reduceAdd, Nat.reduceMul, Nat.reduceSub, Int.reduceToNat, Nat.reduceLeDiff, Int.reduceNeg, Int.reduceEq, Int.reduceLT, Int.reduceLE, Int.reduceBEq, Int.reduceBNe, Int.reduceToNat]; exact rfl) (by rfl) (by rfl) (by rfl))
        rintro ⟨i, ⟨a, b⟩, out⟩ ⟨hi, hout, ha, hrel⟩ R hR
        simp only at hi hout ha hrel
        cases b with
        | true =>
          by_cases c1 : (i : Int) < vq t 8
          · by_cases c2 : i < 65
            · skip
              by_cases h64 : 64 < vq t 8
              · rcases out with _ | ⟨x, out⟩
                all_goals simp only [rcL, rcB, List.append_nil]
                all_goals (simp (disch := first | decide | omega | (intros; exact Eq.trans rfl rfl) | (simp only [puri]; done)) only [a30_0, c1, c2, h64, vis, visL, visB, fillR, rowsAt, toDs, toD, ↓ops_cons, ↓ops_consz, fzTs, fzLs, rg, rd, o, oz, kc, kb, ks, kx, on, og, od, ogd, A.run, evI, evOpt, evs, evP, argF, V.cs, binD, fzV, fzL, fzVs, dataVs, dataLs, V.data, L.data, unD, fillL, List.take_succ_cons, List.take_zero, List.drop_succ_cons, List.drop_zero, List.cons_append, ne_eq, Nat.reduceLT, Nat.reduceBEq, ↓reduceIte, Nat.reduceEqDiff, Nat.reduceAdd, Nat.reduceMul, Nat.reduceSub, Int.reduceToNat, Nat.reduceLeDiff, Int.reduceNeg, Int.reduceEq, Int.reduceLT, Int.reduceLE, Int.reduceBEq, Int.reduceBNe, Int.reduceToNat, dis, vdr, A.kind, A.xs, optX])
                all_goals rw [hW, hok, hM, if_pos h64, if_pos h64]
                all_goals (try simp [msgL, zmsg])
              · have hrel' := hrel (by omega)
                rw [recsGo_bad] at hrel'
                simp only [List.append_nil, Prod.mk.injEq] at hrel'
                obtain ⟨e1, e2⟩ := hrel'
                rw [e1] at hM
                rw [e2] at hok
                rw [if_neg h64] at hM hok
                rw [hM, hok] at hW
                have hrows : ∀ l : List Rec, l.length = i → (l.map Rec.enc).length = i := fun l h => by simpa using h
                have e3 : decide (true = false ∧ s.drop a = []) = false := by simp
                simp only [e3] at hW
                rcases out with _ | ⟨x, out⟩
                all_goals simp only [rcL, rcB, List.append_nil]
                all_goals (simp (disch := first | decide | omega | (intros; exact Eq.trans rfl rfl) | (simp only [puri]; done)) only [a30_0, c1, c2, h64, vis, visL, visB, fillR, rowsAt, toDs, toD, ↓ops_cons, ↓ops_consz, fzTs, fzLs, rg, rd, o, oz, kc, kb, ks, kx, on, og, od, ogd, A.run, evI, evOpt, evs, evP, argF, V.cs, binD, fzV, fzL, fzVs, dataVs, dataLs, V.data, L.data, unD, fillL, List.take_succ_cons, List.take_zero, List.drop_succ_cons, List.drop_zero, List.cons_append, ne_eq, Nat.reduceLT, Nat.reduceBEq, ↓reduceIte, Nat.reduceEqDiff, Nat.reduceAdd, Nat.reduceMul, Nat.reduceSub, Int.reduceToNat, Nat.reduceLeDiff, Int.reduceNeg, Int.reduceEq, Int.reduceLT, Int.reduceLE, Int.reduceBEq, Int.reduceBNe, Int.reduceToNat, dis, vdr, A.kind, A.xs, optX])
                all_goals rw [hW]
                all_goals (try simp [msgL])
            · skip
              by_cases h64 : 64 < vq t 8
              · rcases out with _ | ⟨x, out⟩
                all_goals simp only [rcL, rcB, List.append_nil]
                all_goals (simp (disch := first | decide | omega | (intros; exact Eq.trans rfl rfl) | (simp only [puri]; done)) only [a30_0, c1, c2, h64, vis, visL, visB, fillR, rowsAt, toDs, toD, ↓ops_cons, ↓ops_consz, fzTs, fzLs, rg, rd, o, oz, kc, kb, ks, kx, on, og, od, ogd, A.run, evI, evOpt, evs, evP, argF, V.cs, binD, fzV, fzL, fzVs, dataVs, dataLs, V.data, L.data, unD, fillL, List.take_succ_cons, List.take_zero, List.drop_succ_cons, List.drop_zero, List.cons_append, ne_eq, Nat.reduceLT, Nat.reduceBEq, ↓reduceIte, Nat.reduceEqDiff, Nat.reduceAdd, Nat.reduceMul, Nat.reduceSub, Int.reduceToNat, Nat.reduceLeDiff, Int.reduceNeg, Int.reduceEq, Int.reduceLT, Int.reduceLE, Int.reduceBEq, Int.reduceBNe, Int.reduceToNat, dis, vdr, A.kind, A.xs, optX])
                all_goals rw [hW, hok, hM, if_pos h64, if_pos h64]
                all_goals (try simp [msgL, zmsg])
              · have hrel' := hrel (by omega)
                rw [recsGo_bad] at hrel'
                simp only [List.append_nil, Prod.mk.injEq] at hrel'
                obtain ⟨e1, e2⟩ := hrel'
                rw [e1] at hM
                rw [e2] at hok
                rw [if_neg h64] at hM hok
                rw [hM, hok] at hW
                have hrows : ∀ l : List Rec, l.length = i → (l.map Rec.enc).length = i := fun l h => by simpa using h
                omega
          · skip
            by_cases h64 : 64 < vq t 8
            · rcases out with _ | ⟨x, out⟩
              all_goals simp only [rcL, rcB, List.append_nil]
              all_goals (simp (disch := first | decide | omega | (intros; exact Eq.trans rfl rfl) | (simp only [puri]; done)) only [a30_0, c1, h64, vis, visL, visB, fillR, rowsAt, toDs, toD, ↓ops_cons, ↓ops_consz, fzTs, fzLs, rg, rd, o, oz, kc, kb, ks, kx, on, og, od, ogd, A.run, evI, evOpt, evs, evP, argF, V.cs, binD, fzV, fzL, fzVs, dataVs, dataLs, V.data, L.data, unD, fillL, List.take_succ_cons, List.take_zero, List.drop_succ_cons, List.drop_zero, List.cons_append, ne_eq, Nat.reduceLT, Nat.reduceBEq, ↓reduceIte, Nat.reduceEqDiff, Nat.reduceAdd, Nat.reduceMul, Nat.reduceSub, Int.reduceToNat, Nat.reduceLeDiff, Int.reduceNeg, Int.reduceEq, Int.reduceLT, Int.reduceLE, Int.reduceBEq, Int.reduceBNe, Int.reduceToNat, dis, vdr, A.kind, A.xs, optX])
              all_goals rw [hW, hok, hM, if_pos h64, if_pos h64]
              all_goals (try simp [msgL, zmsg])
            · have hrel' := hrel (by omega)
              rw [recsGo_bad] at hrel'
              simp only [List.append_nil, Prod.mk.injEq] at hrel'
              obtain ⟨e1, e2⟩ := hrel'
              rw [e1] at hM
              rw [e2] at hok
              rw [if_neg h64] at hM hok
              rw [hM, hok] at hW
              have hrows : ∀ l : List Rec, l.length = i → (l.map Rec.enc).length = i := fun l h => by simpa using h
              have e3 : decide (true = false ∧ s.drop a = []) = false := by simp
              simp only [e3] at hW
              rcases out with _ | ⟨x, out⟩
              all_goals simp only [rcL, rcB, List.append_nil]
              all_goals (simp (disch := first | decide | omega | (intros; exact Eq.trans rfl rfl) | (simp only [puri]; done)) only [a30_0, c1, h64, vis, visL, visB, fillR, rowsAt, toDs, toD, ↓ops_cons, ↓ops_consz, fzTs, fzLs, rg, rd, o, oz, kc, kb, ks, kx, on, og, od, ogd, A.run, evI, evOpt, evs, evP, argF, V.cs, binD, fzV, fzL, fzVs, dataVs, dataLs, V.data, L.data, unD, fillL, List.take_succ_cons, List.take_zero, List.drop_succ_cons, List.drop_zero, List.cons_append, ne_eq, Nat.reduceLT, Nat.reduceBEq, ↓reduceIte, Nat.reduceEqDiff, Nat.reduceAdd, Nat.reduceMul, Nat.reduceSub, Int.reduceToNat, Nat.reduceLeDiff, Int.reduceNeg, Int.reduceEq, Int.reduceLT, Int.reduceLE, Int.reduceBEq, Int.reduceBNe, Int.reduceToNat, dis, vdr, A.kind, A.xs, optX])
              all_goals rw [hW]
              all_goals (try simp [msgL])
        | false =>
          by_cases c1 : (i : Int) < vq t 8
          · by_cases c2 : i < 65
            · skip
              obtain ⟨p1, u1, v1, w1⟩ := cnumI s a false (s.drop a, false) rfl (by omega) ha
              have x1 := num_nat (s.drop a, false)
              obtain ⟨⟨ti, t1⟩, y1⟩ : ∃ x, num (s.drop a, false) = x := ⟨_, rfl⟩
              rw [y1] at v1 w1 x1
              simp only at v1 w1 x1
              obtain ⟨p2, u2, v2, w2⟩ := cnumI s p1 t1.2 t1 v1 (by omega) u1
              have x2 := num_nat t1
              obtain ⟨⟨ln, t2⟩, y2⟩ : ∃ x, num t1 = x := ⟨_, rfl⟩
              rw [y2] at v2 w2 x2
              simp only at v2 w2 x2
              obtain ⟨p3, u3, v3, _, w3⟩ := ctxtI s p2 t2.2 ln x2 t2 v2 (by omega) u2
              obtain ⟨⟨d, t3⟩, y3⟩ : ∃ x, txt ln t2 = x := ⟨_, rfl⟩
              rw [y3] at v3 w3
              simp only at v3 w3
              have hR' := hR (i + 1, (p3, t3.2), out ++ [⟨IntKind.i64.wrap (vq t 6 + i), ti, d⟩]) (by simp only []; omega) ⟨by simp only []; omega, by simp [hout], u3, fun h => by
                have h1 := hrel h
                obtain ⟨k, hk⟩ : ∃ k, (vq t 8).toNat - i = k + 1 := ⟨(vq t 8).toNat - i - 1, by omega⟩
                have hk2 : (vq t 8).toNat - (i + 1) = k := by omega
                rw [hk, recsGo_step, y1] at h1
                simp only [y2, y3] at h1
                simp only [hk2, List.append_assoc, List.singleton_append]
                have e9 : vq t 6 + ((i + 1 : Nat) : Int) = vq t 6 + i + 1 := by omega
                rw [e9, ← v3]; exact h1⟩
              have hpl : ∀ (S : List UInt8) (x : Int) (y : Bool), [L.d (.s S), L.d (.i .i64 x), L.d (.b y)].all L.pure = true := fun _ _ _ => Eq.trans rfl rfl
              rcases out with _ | ⟨x, out⟩
              · simp only [rcL, rcB, List.append_nil]
                simp only [List.nil_append, rcL, rcB, List.length_cons, List.length_nil, Nat.zero_add, List.map_cons, List.map_nil, Rec.enc] at hR'
                (simp (disch := first | decide | omega | (intros; exact Eq.trans rfl rfl) | (simp only [puri]; done)) only [a30_0, c1, c2, w1, w2, ↓iso_call2_e, ccK_p, ccR_some, hpl, w3, ↓iso_appns_e, anK_ns, vis, visL, visB, fillR, rowsAt, toDs, toD, ↓ops_cons, ↓ops_consz, fzTs, fzLs, rg, rd, o, oz, kc, kb, ks, kx, on, og, od, ogd, A.run, evI, evOpt, evs, evP, argF, V.cs, binD, fzV, fzL, fzVs, dataVs, dataLs, V.data, L.data, unD, fillL, List.take_succ_cons, List.take_zero, List.drop_succ_cons, List.drop_zero, List.cons_append, ne_eq, Nat.reduceLT, Nat.reduceBEq, ↓reduceIte, Nat.reduceEqDiff, Nat.reduceAdd, Nat.reduceMul, Nat.reduceSub, Int.reduceToNat, Nat.reduceLeDiff, Int.reduceNeg, Int.reduceEq, Int.reduceLT, Int.reduceLE, Int.reduceBEq, Int.reduceBNe, Int.reduceToNat, dis, vdr, A.kind, A.xs, optX])
                exact hR' _ _ (at_headM (by decide) (by simp only [List.map_cons, List.map_nil, vis, visL, visB, fillR, rowsAt, toDs, toD, ↓ops_cons, ↓ops_consz, fzTs, fzLs, rg, rd, o, oz, kc, kb, ks, kx, on, og, od, ogd, A.run, evI, evOpt, evs, evP, argF, V.cs, binD, fzV, fzL, fzVs, dataVs, dataLs, V.data, L.data, unD, fillL, List.take_succ_cons, List.take_zero, List.drop_succ_cons, List.drop_zero, List.cons_append, ne_eq, Nat.reduceLT, Nat.reduceBEq, ↓reduceIte, Nat.reduceEqDiff, Nat.reduceAdd, Nat.reduceMul, Nat.reduceSub, Int.reduceToNat, Nat.reduceLeDiff, Int.reduceNeg, Int.reduceEq, Int.reduceLT, Int.reduceLE, Int.reduceBEq, Int.reduceBNe, Int.reduceToNat]; exact rfl) (by rfl) (by rfl) (by rfl))
              · simp only [rcL, rcB]
                simp only [List.cons_append, rcL, rcB, List.length_cons, List.length_append, List.length_nil, Nat.zero_add, List.map_cons, List.map_append, List.map_nil, Rec.enc] at hR'
                simp only [List.length_cons] at hout
                (simp (disch := first | decide | omega | (intros; exact Eq.trans rfl rfl) | (simp only [puri]; done)) only [a30_0, c1, c2, w1, w2, ↓iso_call2_e, ccK_p, ccR_some, hpl, w3, ↓iso_sto_e, stKo_p, vis, visL, visB, fillR, rowsAt, toDs, toD, ↓ops_cons, ↓ops_consz, fzTs, fzLs, rg, rd, o, oz, kc, kb, ks, kx, on, og, od, ogd, A.run, evI, evOpt, evs, evP, argF, V.cs, binD, fzV, fzL, fzVs, dataVs, dataLs, V.data, L.data, unD, fillL, List.take_succ_cons, List.take_zero, List.drop_succ_cons, List.drop_zero, List.cons_append, ne_eq, Nat.reduceLT, Nat.reduceBEq, ↓reduceIte, Nat.reduceEqDiff, Nat.reduceAdd, Nat.reduceMul, Nat.reduceSub, Int.reduceToNat, Nat.reduceLeDiff, Int.reduceNeg, Int.reduceEq, Int.reduceLT, Int.reduceLE, Int.reduceBEq, Int.reduceBNe, Int.reduceToNat, dis, vdr, A.kind, A.xs, optX])
                exact hR' _ _ (at_headM (by decide) (by simp only [List.map_cons, List.map_nil, vis, visL, visB, fillR, rowsAt, toDs, toD, ↓ops_cons, ↓ops_consz, fzTs, fzLs, rg, rd, o, oz, kc, kb, ks, kx, on, og, od, ogd, A.run, evI, evOpt, evs, evP, argF, V.cs, binD, fzV, fzL, fzVs, dataVs, dataLs, V.data, L.data, unD, fillL, List.take_succ_cons, List.take_zero, List.drop_succ_cons, List.drop_zero, List.cons_append, ne_eq, Nat.reduceLT, Nat.reduceBEq, ↓reduceIte, Nat.reduceEqDiff, Nat.reduceAdd, Nat.reduceMul, Nat.reduceSub, Int.reduceToNat, Nat.reduceLeDiff, Int.reduceNeg, Int.reduceEq, Int.reduceLT, Int.reduceLE, Int.reduceBEq, Int.reduceBNe, Int.reduceToNat]; exact rfl) (by rfl) (by rfl) (by rfl))
            · skip
              by_cases h64 : 64 < vq t 8
              · rcases out with _ | ⟨x, out⟩
                all_goals simp only [rcL, rcB, List.append_nil]
                all_goals (simp (disch := first | decide | omega | (intros; exact Eq.trans rfl rfl) | (simp only [puri]; done)) only [a30_0, c1, c2, h64, vis, visL, visB, fillR, rowsAt, toDs, toD, ↓ops_cons, ↓ops_consz, fzTs, fzLs, rg, rd, o, oz, kc, kb, ks, kx, on, og, od, ogd, A.run, evI, evOpt, evs, evP, argF, V.cs, binD, fzV, fzL, fzVs, dataVs, dataLs, V.data, L.data, unD, fillL, List.take_succ_cons, List.take_zero, List.drop_succ_cons, List.drop_zero, List.cons_append, ne_eq, Nat.reduceLT, Nat.reduceBEq, ↓reduceIte, Nat.reduceEqDiff, Nat.reduceAdd, Nat.reduceMul, Nat.reduceSub, Int.reduceToNat, Nat.reduceLeDiff, Int.reduceNeg, Int.reduceEq, Int.reduceLT, Int.reduceLE, Int.reduceBEq, Int.reduceBNe, Int.reduceToNat, dis, vdr, A.kind, A.xs, optX])
                all_goals rw [hW, hok, hM, if_pos h64, if_pos h64]
                all_goals (try simp [msgL, zmsg])
              · have hrel' := hrel (by omega)
                have hrows : ∀ l : List Rec, l.length = i → (l.map Rec.enc).length = i := fun l h => by simpa using h
                omega
          · skip
            by_cases h64 : 64 < vq t 8
            · rcases out with _ | ⟨x, out⟩
              all_goals simp only [rcL, rcB, List.append_nil]
              all_goals (simp (disch := first | decide | omega | (intros; exact Eq.trans rfl rfl) | (simp only [puri]; done)) only [a30_0, c1, h64, vis, visL, visB, fillR, rowsAt, toDs, toD, ↓ops_cons, ↓ops_consz, fzTs, fzLs, rg, rd, o, oz, kc, kb, ks, kx, on, og, od, ogd, A.run, evI, evOpt, evs, evP, argF, V.cs, binD, fzV, fzL, fzVs, dataVs, dataLs, V.data, L.data, unD, fillL, List.take_succ_cons, List.take_zero, List.drop_succ_cons, List.drop_zero, List.cons_append, ne_eq, Nat.reduceLT, Nat.reduceBEq, ↓reduceIte, Nat.reduceEqDiff, Nat.reduceAdd, Nat.reduceMul, Nat.reduceSub, Int.reduceToNat, Nat.reduceLeDiff, Int.reduceNeg, Int.reduceEq, Int.reduceLT, Int.reduceLE, Int.reduceBEq, Int.reduceBNe, Int.reduceToNat, dis, vdr, A.kind, A.xs, optX])
              all_goals rw [hW, hok, hM, if_pos h64, if_pos h64]
              all_goals (try simp [msgL, zmsg])
            · have hrel' := hrel (by omega)
              have e0 : (vq t 8).toNat - i = 0 := by omega
              rw [e0] at hrel'
              simp only [recsGo] at hrel'
              simp only [List.append_nil, Prod.mk.injEq] at hrel'
              obtain ⟨e1, e2⟩ := hrel'
              rw [e1] at hM
              rw [e2] at hok
              rw [if_neg h64] at hM hok
              rw [hM, hok] at hW
              have hrows : ∀ l : List Rec, l.length = i → (l.map Rec.enc).length = i := fun l h => by simpa using h
              by_cases c9 : (a : Int) = s.length
              · have e3 : decide (false = false ∧ s.drop a = []) = true := by simp; omega
                simp only [e3] at hW
                rcases out with _ | ⟨x, out⟩
                all_goals simp only [rcL, rcB, List.append_nil]
                all_goals (simp (disch := first | decide | omega | (intros; exact Eq.trans rfl rfl) | (simp only [puri]; done)) only [a30_0, c1, h64, c9, vis, visL, visB, fillR, rowsAt, toDs, toD, ↓ops_cons, ↓ops_consz, fzTs, fzLs, rg, rd, o, oz, kc, kb, ks, kx, on, og, od, ogd, A.run, evI, evOpt, evs, evP, argF, V.cs, binD, fzV, fzL, fzVs, dataVs, dataLs, V.data, L.data, unD, fillL, List.take_succ_cons, List.take_zero, List.drop_succ_cons, List.drop_zero, List.cons_append, ne_eq, Nat.reduceLT, Nat.reduceBEq, ↓reduceIte, Nat.reduceEqDiff, Nat.reduceAdd, Nat.reduceMul, Nat.reduceSub, Int.reduceToNat, Nat.reduceLeDiff, Int.reduceNeg, Int.reduceEq, Int.reduceLT, Int.reduceLE, Int.reduceBEq, Int.reduceBNe, Int.reduceToNat, dis, vdr, A.kind, A.xs, optX])
                all_goals rw [hW]
                all_goals (try simp [msgL])
                all_goals (try omega)
              · have e3 : decide (false = false ∧ s.drop a = []) = false := by simp; omega
                simp only [e3] at hW
                rcases out with _ | ⟨x, out⟩
                all_goals simp only [rcL, rcB, List.append_nil]
                all_goals (simp (disch := first | decide | omega | (intros; exact Eq.trans rfl rfl) | (simp only [puri]; done)) only [a30_0, c1, h64, c9, vis, visL, visB, fillR, rowsAt, toDs, toD, ↓ops_cons, ↓ops_consz, fzTs, fzLs, rg, rd, o, oz, kc, kb, ks, kx, on, og, od, ogd, A.run, evI, evOpt, evs, evP, argF, V.cs, binD, fzV, fzL, fzVs, dataVs, dataLs, V.data, L.data, unD, fillL, List.take_succ_cons, List.take_zero, List.drop_succ_cons, List.drop_zero, List.cons_append, ne_eq, Nat.reduceLT, Nat.reduceBEq, ↓reduceIte, Nat.reduceEqDiff, Nat.reduceAdd, Nat.reduceMul, Nat.reduceSub, Int.reduceToNat, Nat.reduceLeDiff, Int.reduceNeg, Int.reduceEq, Int.reduceLT, Int.reduceLE, Int.reduceBEq, Int.reduceBNe, Int.reduceToNat, dis, vdr, A.kind, A.xs, optX])
                all_goals rw [hW]
                all_goals (try simp [msgL])
                all_goals (try omega)
      · rw [hM]
        split
        · simp [zmsg]
        · exact hrl (by omega)
      · unfold bodyOk
        rw [← ht, hpar, hrr, hok, hM]
        by_cases c : 64 < vq t 8
        · have e : cutB (vq t 8) (sq t 9) = ((sq t 9).1, true) := by unfold cutB; rw [if_pos c]
          rw [e, recsGo_bad, if_pos c, if_pos c]
          simp [finM]
        · have e : cutB (vq t 8) (sq t 9) = sq t 9 := by unfold cutB; rw [if_neg c]
          rw [e, hG, if_neg c, if_neg c]
          simp only [finM]
          by_cases z1 : tN.2 = false
          · by_cases z2 : tN.1 = []
            · simp [z1, z2]
            · simp [z1, z2]
          · simp [z1]
    · obtain ⟨a8, b8, d8, q8⟩ := cnumS t s a7 7 8 rfl d7 (by omega) b7
      obtain ⟨a9, b9, d9, q9⟩ := cnumS t s a8 8 9 rfl d8 (by omega) b8
      obtain ⟨a10, b10, d10, q10, _⟩ := ctxtI s a9 (sq t 9).2 4 (by unfold natI; decide) (sq t 9) d9 (by omega) b9
      have hfl : (txt 4 (sq t 9)).1.length ≤ 4 := by
        unfold txt
        split
        · simp; omega
        · simp
      have hpar : vq t 0 = 3 → parseW t = (⟨vq t 0, vq t 1, vq t 2, vq t 3, vq t 4, vq t 5, vq t 6, 0, 0, 0, vq t 8, vq t 7, ((le4 (txt 4 (sq t 9)).1 : Nat) : Int), (txt 4 (sq t 9)).2.1, []⟩, ([], (txt 4 (sq t 9)).2.2)) := by intro k3; unfold parseW; rw [if_neg k1, if_neg k2, if_pos k3]; rfl
      have hpar2 : vq t 0 ≠ 3 → parseW t = (msg0 t, sq t 7) := by intro k3; unfold parseW; rw [if_neg k1, if_neg k2, if_neg k3]
      obtain ⟨⟨fo, t10⟩, hx⟩ : ∃ x, txt 4 (sq t 9) = x := ⟨_, rfl⟩
      rw [hx] at hpar d10 q10 hfl
      simp only at hpar d10 q10 hfl
      obtain ⟨r10, b10'⟩ := t10
      simp only [Prod.mk.injEq, and_true] at d10
      subst d10
      simp only at q10 hpar
      obtain ⟨a11, b11, d11, q11, _⟩ := ctxtI s a10 b10' ((s.length : Int) - a10) (by unfold natI; omega) (s.drop a10, b10') rfl (by omega) b10
      obtain ⟨M, hM⟩ : ∃ M : List UInt8 → Msg, M = fun da => ⟨vq t 0, vq t 1, vq t 2, vq t 3, vq t 4, vq t 5, vq t 6, 0, 0, 0, vq t 8, vq t 7, ((le4 fo : Nat) : Int), da, []⟩ := ⟨_, rfl⟩
      refine ⟨M (if b10' = true then [] else s.drop a10), !b10', ?_, by rw [hM]; simp, ?_⟩
      · apply enterS s30 rfl
        obtain ⟨W, hW⟩ : ∃ W : V × Hp, W = (.tup [(true, msgL (M (if b10' = true then [] else s.drop a10))), (false, [.d (.b (!b10'))])], []) := ⟨_, rfl⟩
        rw [← hW]
        (simp (disch := first | decide | omega | (intros; exact Eq.trans rfl rfl) | (simp only [puri]; done)) only [a30, q1', q2, q3, q4, q5, q6, q7, q8, q9, q10, k1, k2, vis, visL, visB, fillR, rowsAt, toDs, toD, ↓ops_cons, ↓ops_consz, fzTs, fzLs, rg, rd, o, oz, kc, kb, ks, kx, on, og, od, ogd, A.run, evI, evOpt, evs, evP, argF, V.cs, binD, fzV, fzL, fzVs, dataVs, dataLs, V.data, L.data, unD, fillL, List.take_succ_cons, List.take_zero, List.drop_succ_cons, List.drop_zero, List.cons_append, ne_eq, Nat.reduceLT, Nat.reduceBEq, ↓reduceIte, Nat.reduceEqDiff, Nat.reduceAdd, Nat.reduceMul, Nat.reduceSub, Int.reduceToNat, Nat.reduceLeDiff, Int.reduceNeg, Int.reduceEq, Int.reduceLT, Int.reduceLE, Int.reduceBEq, Int.reduceBNe, Int.reduceToNat, dis, vdr, A.kind, A.xs, optX])
        refine loop_box (σ := Nat) (fun j => j) (fun j => j ≤ fo.length) (fun j => [vs s, V.one (.p 0 0), V.one (.p 1 0), V.one (.p 2 0), vs fo, vi ((j : Int) - 1)]) (fun j => [.cells [.d (.i .i64 0), .d (.i .i64 0), .d (.i .i64 0), .d (.i .i64 0), .d (.i .i64 0), .d (.i .i64 0), .d (.i .i64 0), .d (.i .i64 0), .d (.i .i64 0), .d (.i .i64 0), .d (.i .i64 0), .d (.i .i64 0), .d (.i .u32 0), .d (.s []), .ns], .cells [.d (.s s), .d (.i .i64 (a10 : Int)), .d (.b b10')], .cells [.d (.i .i64 (vq t 0)), .d (.i .i64 (vq t 1)), .d (.i .i64 (vq t 2)), .d (.i .i64 (vq t 3)), .d (.i .i64 (vq t 4)), .d (.i .i64 (vq t 5)), .d (.i .i64 (vq t 6)), .d (.i .i64 0), .d (.i .i64 0), .d (.i .i64 0), .d (.i .i64 (vq t 8)), .d (.i .i64 (vq t 7)), .d (.i .u32 ((le4 (fo.drop j) : Nat) : Int)), .d (.s []), .ns]]) (fun _ => W) ?_ fo.length (Nat.le_refl _) _ _ ?_
        rotate_left
        · simp only [List.drop_length, le4]
          exact (at_headM (by decide) (by simp only [List.map_cons, List.map_nil, vis, visL, visB, fillR, rowsAt, toDs, toD, ↓ops_cons, ↓ops_consz, fzTs, fzLs, rg, rd, o, oz, kc, kb, ks, kx, on, og, od, ogd, A.run, evI, evOpt, evs, evP, argF, V.cs, binD, fzV, fzL, fzVs, dataVs, dataLs, V.data, L.data, unD, fillL, List.take_succ_cons, List.take_zero, List.drop_succ_cons, List.drop_zero, List.cons_append, ne_eq, Nat.reduceLT, Nat.reduceBEq, ↓reduceIte, Nat.reduceEqDiff, Nat.reduceAdd, Nat.reduceMul, Nat.reduceSub, Int.reduceToNat, Nat.reduceLeDiff, Int.reduceNeg, Int.reduceEq, Int.reduceLT, Int.reduceLE, Int.reduceBEq, Int.reduceBNe, Int.reduceToNat]; exact rfl) (by rfl) (by rfl) (by rfl))
        intro j hj R hR
        skip
        rcases j with _ | j
        · have hz : ((0 : Nat) : Int) - 1 = -1 := rfl
          simp only [hz, List.drop_zero]
          cases b10' with
          | true =>
            have e : txt ((s.length : Int) - a10) (s.drop a10, true) = ([], (s.drop a10, true)) := by unfold txt; simp
            rw [e] at q11 d11
            (simp (disch := first | decide | omega | (intros; exact Eq.trans rfl rfl) | (simp only [puri]; done)) only [a30_1, q11, vis, visL, visB, fillR, rowsAt, toDs, toD, ↓ops_cons, ↓ops_consz, fzTs, fzLs, rg, rd, o, oz, kc, kb, ks, kx, on, og, od, ogd, A.run, evI, evOpt, evs, evP, argF, V.cs, binD, fzV, fzL, fzVs, dataVs, dataLs, V.data, L.data, unD, fillL, List.take_succ_cons, List.take_zero, List.drop_succ_cons, List.drop_zero, List.cons_append, ne_eq, Nat.reduceLT, Nat.reduceBEq, ↓reduceIte, Nat.reduceEqDiff, Nat.reduceAdd, Nat.reduceMul, Nat.reduceSub, Int.reduceToNat, Nat.reduceLeDiff, Int.reduceNeg, Int.reduceEq, Int.reduceLT, Int.reduceLE, Int.reduceBEq, Int.reduceBNe, Int.reduceToNat, dis, vdr, A.kind, A.xs, optX])
            rw [hW]
            try simp [msgL, hM]
          | false =>
            have e : txt ((s.length : Int) - a10) (s.drop a10, false) = (s.drop a10, ([], false)) := by
              unfold txt
              rw [if_pos ⟨rfl, by simp only [List.length_drop]; omega⟩]
              have : ((s.length : Int) - a10).toNat = (s.drop a10).length := by rw [List.length_drop]; omega
              rw [this, List.take_length, List.drop_length]
            rw [e] at q11 d11
            have d12 : s.drop a11 = [] := by have := congrArg Prod.fst d11; simpa using this.symm
            have d13 : (a11 : Int) = s.length := by rw [List.drop_eq_nil_iff] at d12; omega
            (simp (disch := first | decide | omega | (intros; exact Eq.trans rfl rfl) | (simp only [puri]; done)) only [a30_1, q11, d13, vis, visL, visB, fillR, rowsAt, toDs, toD, ↓ops_cons, ↓ops_consz, fzTs, fzLs, rg, rd, o, oz, kc, kb, ks, kx, on, og, od, ogd, A.run, evI, evOpt, evs, evP, argF, V.cs, binD, fzV, fzL, fzVs, dataVs, dataLs, V.data, L.data, unD, fillL, List.take_succ_cons, List.take_zero, List.drop_succ_cons, List.drop_zero, List.cons_append, ne_eq, Nat.reduceLT, Nat.reduceBEq, ↓reduceIte, Nat.reduceEqDiff, Nat.reduceAdd, Nat.reduceMul, Nat.reduceSub, Int.reduceToNat, Nat.reduceLeDiff, Int.reduceNeg, Int.reduceEq, Int.reduceLT, Int.reduceLE, Int.reduceBEq, Int.reduceBNe, Int.reduceToNat, dis, vdr, A.kind, A.xs, optX])
            rw [hW]
            try simp [msgL, hM]
        · have hz : ((j + 1 : Nat) : Int) - 1 = (j : Int) := by omega
          simp only [hz]
          have hjl : j < fo.length := by omega
          have hdr := List.drop_eq_getElem_cons hjl
          have hR' := hR j (by omega) (by omega)
          rw [hdr] at hR'
          simp only [le4] at hR'
          have hlt := le4_lt (fo.drop (j + 1))
          have hpw : 256 ^ (fo.drop (j + 1)).length ≤ 256 ^ 3 := Nat.pow_le_pow_right (by decide) (by rw [List.length_drop]; omega)
          have h33 : (256 : Nat) ^ 3 = 16777216 := by decide
          have hc := fo[j].toNat_lt
          have hw0 : IntKind.u32.wrap ((fo[j].toNat : Nat) : Int) = ((fo[j].toNat : Nat) : Int) := wrap_u32 (by omega)
          have hw1 : IntKind.u32.wrap (((le4 (fo.drop (j + 1)) : Nat) : Int) * 256) = ((le4 (fo.drop (j + 1)) : Nat) : Int) * 256 := wrap_u32 (by omega)
          have hw2 : IntKind.u32.wrap (((le4 (fo.drop (j + 1)) : Nat) : Int) * 256 + ((fo[j].toNat : Nat) : Int)) = ((fo[j].toNat + 256 * le4 (fo.drop (j + 1)) : Nat) : Int) := by rw [wrap_u32 (by omega)]; omega
          generalize le4 (fo.drop (j + 1)) = g at *
          (simp (disch := first | decide | omega | (intros; exact Eq.trans rfl rfl) | (simp only [puri]; done)) only [a30_1, (List.getElem?_eq_getElem hjl), hw0, hw1, hw2, vis, visL, visB, fillR, rowsAt, toDs, toD, ↓ops_cons, ↓ops_consz, fzTs, fzLs, rg, rd, o, oz, kc, kb, ks, kx, on, og, od, ogd, A.run, evI, evOpt, evs, evP, argF, V.cs, binD, fzV, fzL, fzVs, dataVs, dataLs, V.data, L.data, unD, fillL, List.take_succ_cons, List.take_zero, List.drop_succ_cons, List.drop_zero, List.cons_append, ne_eq, Nat.reduceLT, Nat.reduceBEq, ↓reduceIte, Nat.reduceEqDiff, Nat.reduceAdd, Nat.reduceMul, Nat.reduceSub, Int.reduceToNat, Nat.reduceLeDiff, Int.reduceNeg, Int.reduceEq, Int.reduceLT, Int.reduceLE, Int.reduceBEq, Int.reduceBNe, Int.reduceToNat, dis, vdr, A.kind, A.xs, optX])
          exact hR' _ _ (at_headM (by decide) (by simp only [List.map_cons, List.map_nil, vis, visL, visB, fillR, rowsAt, toDs, toD, ↓ops_cons, ↓ops_consz, fzTs, fzLs, rg, rd, o, oz, kc, kb, ks, kx, on, og, od, ogd, A.run, evI, evOpt, evs, evP, argF, V.cs, binD, fzV, fzL, fzVs, dataVs, dataLs, V.data, L.data, unD, fillL, List.take_succ_cons, List.take_zero, List.drop_succ_cons, List.drop_zero, List.cons_append, ne_eq, Nat.reduceLT, Nat.reduceBEq, ↓reduceIte, Nat.reduceEqDiff, Nat.reduceAdd, Nat.reduceMul, Nat.reduceSub, Int.reduceToNat, Nat.reduceLeDiff, Int.reduceNeg, Int.reduceEq, Int.reduceLT, Int.reduceLE, Int.reduceBEq, Int.reduceBNe, Int.reduceToNat]; exact rfl) (by rfl) (by rfl) (by rfl))
      · unfold bodyOk
        rw [← ht]
        by_cases k3 : vq t 0 = 3
        · rw [hpar k3]
          cases b10' with
          | true => simp [finM]
          | false => simp [finM, hM]
        · rw [hpar2 k3]
          have r1 : rightM (msg0 t) = false := by
            rw [Bool.eq_false_iff]; intro h
            rcases (rightP h).hk with h | h | h
            · exact k1 h
            · exact k2 h
            · exact k3 h
          have r2 : ∀ d, rightM (M d) = false := by
            intro d
            rw [Bool.eq_false_iff]; intro h
            have := (rightP h).hk
            rw [hM] at this
            rcases this with h | h | h
            · exact k1 h
            · exact k2 h
            · exact k3 h
          simp [finM, r1, r2]
end Go.Proofs.Ytogleebbifpijaa
