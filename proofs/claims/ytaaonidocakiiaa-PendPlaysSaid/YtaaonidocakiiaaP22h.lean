import Derived.Test.YtaaonidocakiiaaP22g
set_option linter.unusedSimpArgs false
set_option linter.unusedVariables false
namespace Go.Proofs.Ytaaonidocakiiaa
open Go.Vi
set_option linter.unusedSimpArgs false

set_option maxRecDepth 20000 in
set_option maxHeartbeats 4000000 in
theorem law5 (acts : List Int) (ha : ∀ a ∈ acts, 0 ≤ a ∧ a < 256) (most : Int) (hm : 0 ≤ most ∧ most < 256) (hl : acts.length ≤ 9223372036854775807) :
    call 5 [vl (acts.map encU), vk .u8 most] [] = some (vb true, []) := by
  apply enterS s5 rfl
  have haw := awake_spec
  by_cases h80 : acts.length ≤ 80
  · have w1 : IntKind.i64.wrap (most.tmod 9) = most % 9 := by rw [tmod_pos hm.1]; exact wrap_i (by omega)
    have hn0 : 0 ≤ most % 9 ∧ most % 9 < 9 := by omega
    generalize hnn : most % 9 = n at w1 hn0
    (simp (disch := first | decide | omega | (intros; exact Eq.trans rfl rfl) | (simp only [puri]; done)) only [a5, w1, vis, visL, visB, fillR, rowsAt, toDs, toD, ↓ops_cons, ↓ops_consz, fzTs, fzLs, rg, rd, o, oz, kc, kb, ks, kx, on, og, od, ogd, A.run, evI, evOpt, evs, evP, argF, V.cs, binD, fzV, fzL, dataVs, dataLs, V.data, L.data, unD, fillL, List.take_succ_cons, List.take_zero, List.drop_succ_cons, List.drop_zero, List.cons_append, ne_eq, Nat.reduceLT, Nat.reduceBEq, ↓reduceIte, Nat.reduceEqDiff, Nat.reduceAdd, Nat.reduceMul, Nat.reduceSub, Int.reduceToNat, Nat.reduceLeDiff, Int.reduceNeg, Int.reduceEq, Int.reduceLT, Int.reduceLE, Int.reduceBEq, Int.reduceBNe, Int.reduceToNat, dis])
    refine loop_data (σ := PS) (fun s => acts.length - s.i) (PSok n acts) (fun s => [vl (acts.map encU), vi n, vl ((s.w ++ s.o).map Entry.enc), vi s.ticket, vi s.at_, vi s.rel, vi s.drp, vi s.last, vi s.i])
      (fun _ => (vb true, [])) (fun _ => by simp only [vis, visL, visB, fillR, rowsAt, toDs, toD, ↓ops_cons, ↓ops_consz, fzTs, fzLs, rg, rd, o, oz, kc, kb, ks, kx, on, og, od, ogd, A.run, evI, evOpt, evs, evP, argF, V.cs, binD, fzV, fzL, dataVs, dataLs, V.data, L.data, unD, fillL, List.take_succ_cons, List.take_zero, List.drop_succ_cons, List.drop_zero, List.cons_append, ne_eq, Nat.reduceLT, Nat.reduceBEq, ↓reduceIte, Nat.reduceEqDiff, Nat.reduceAdd, Nat.reduceMul, Nat.reduceSub, Int.reduceToNat, Nat.reduceLeDiff, Int.reduceNeg, Int.reduceEq, Int.reduceLT, Int.reduceLE, Int.reduceBEq, Int.reduceBNe, Int.reduceToNat]) ?_ ⟨[], [], 0, 0, 0, 0, -1, 0⟩ ?_ _ (by simp [vis, visL, visB, fillR, rowsAt, toDs, toD, ↓ops_cons, ↓ops_consz, fzTs, fzLs, rg, rd, o, oz, kc, kb, ks, kx, on, og, od, ogd, A.run, evI, evOpt, evs, evP, argF, V.cs, binD, fzV, fzL, dataVs, dataLs, V.data, L.data, unD, fillL, List.take_succ_cons, List.take_zero, List.drop_succ_cons, List.drop_zero, List.cons_append, ne_eq, Nat.reduceLT, Nat.reduceBEq, ↓reduceIte, Nat.reduceEqDiff, Nat.reduceAdd, Nat.reduceMul, Nat.reduceSub, Int.reduceToNat, Nat.reduceLeDiff, Int.reduceNeg, Int.reduceEq, Int.reduceLT, Int.reduceLE, Int.reduceBEq, Int.reduceBNe, Int.reduceToNat])
    · rintro ⟨wl, ol, ticket, at_, rel, drp, last, i⟩ hP R hR
      have hg := hP.g
      have hle := hP.le
      have hsum := hP.sum
      have hi := hP.hi
      have b1 := hP.b1
      have b2 := hP.b2
      have b3 := hP.b3
      have b4 := hP.b4
      have b5 := hg.at0
      simp only at hg hle hsum hi b1 b2 b3 b4 b5
      have hfirst := first_spec (wl ++ ol) (by omega)
      rw [hg.first] at hfirst
      have hright := hg.right
      obtain ⟨q, hq⟩ : ∃ q, q = wl ++ ol := ⟨_, rfl⟩
      simp only [← hq] at hfirst hright hle hsum ⊢
      have hrt := right_spec q (by omega)
      rw [hright] at hrt
      rcases Nat.lt_or_ge i acts.length with h | h
      · have hai := ha acts[i] (List.getElem_mem h)
        have hm4 : acts[i].tmod 4 = acts[i] % 4 := tmod_pos hai.1
        have hr4 : acts[i] % 4 = 0 ∨ acts[i] % 4 = 1 ∨ acts[i] % 4 = 2 ∨ acts[i] % 4 = 3 := by omega
        rcases hr4 with hr4 | hr4 | hr4 | hr4
        · -- one more
          have hadd := add_spec q ticket [120] n (by omega)
          by_cases c : n ≤ (q.length : Int)
          · rw [if_pos c] at hadd
            (simp (disch := first | decide | omega | (intros; exact Eq.trans rfl rfl) | (simp only [puri]; done)) only [a5_0, encU_len, encU_at, hm4, hr4, hfirst, hadd, hrt, vq, vis, visL, visB, fillR, rowsAt, toDs, toD, ↓ops_cons, ↓ops_consz, fzTs, fzLs, rg, rd, o, oz, kc, kb, ks, kx, on, og, od, ogd, A.run, evI, evOpt, evs, evP, argF, V.cs, binD, fzV, fzL, dataVs, dataLs, V.data, L.data, unD, fillL, List.take_succ_cons, List.take_zero, List.drop_succ_cons, List.drop_zero, List.cons_append, ne_eq, Nat.reduceLT, Nat.reduceBEq, ↓reduceIte, Nat.reduceEqDiff, Nat.reduceAdd, Nat.reduceMul, Nat.reduceSub, Int.reduceToNat, Nat.reduceLeDiff, Int.reduceNeg, Int.reduceEq, Int.reduceLT, Int.reduceLE, Int.reduceBEq, Int.reduceBNe, Int.reduceToNat, dis])
            exact hR ⟨wl, ol, ticket, at_, rel, drp, last, i + 1⟩ (by simp only []; omega) ⟨hg, by simp only [← hq]; omega, by simp only [← hq]; omega, by simp only []; omega, b1, b2, by simp only []; omega, by simp only []; omega⟩ _ (by simp [hq, vis, visL, visB, fillR, rowsAt, toDs, toD, ↓ops_cons, ↓ops_consz, fzTs, fzLs, rg, rd, o, oz, kc, kb, ks, kx, on, og, od, ogd, A.run, evI, evOpt, evs, evP, argF, V.cs, binD, fzV, fzL, dataVs, dataLs, V.data, L.data, unD, fillL, List.take_succ_cons, List.take_zero, List.drop_succ_cons, List.drop_zero, List.cons_append, ne_eq, Nat.reduceLT, Nat.reduceBEq, ↓reduceIte, Nat.reduceEqDiff, Nat.reduceAdd, Nat.reduceMul, Nat.reduceSub, Int.reduceToNat, Nat.reduceLeDiff, Int.reduceNeg, Int.reduceEq, Int.reduceLT, Int.reduceLE, Int.reduceBEq, Int.reduceBNe, Int.reduceToNat])
          · rw [if_neg c] at hadd
            have hg2 := hg.add [120]
            have hrt2 := right_spec (q ++ [⟨ticket, [120], -1⟩]) (by simp; omega)
            have hright2 := hg2.right
            rw [← List.append_assoc, ← hq] at hright2
            rw [hright2] at hrt2
            have hlen : (q ++ [(⟨ticket, [120], -1⟩ : Entry)]).length = q.length + 1 := by simp
            (simp (disch := first | decide | omega | (intros; exact Eq.trans rfl rfl) | (simp only [puri]; done)) only [a5_0, encU_len, encU_at, hm4, hr4, hfirst, hadd, hrt2, vq, vis, visL, visB, fillR, rowsAt, toDs, toD, ↓ops_cons, ↓ops_consz, fzTs, fzLs, rg, rd, o, oz, kc, kb, ks, kx, on, og, od, ogd, A.run, evI, evOpt, evs, evP, argF, V.cs, binD, fzV, fzL, dataVs, dataLs, V.data, L.data, unD, fillL, List.take_succ_cons, List.take_zero, List.drop_succ_cons, List.drop_zero, List.cons_append, ne_eq, Nat.reduceLT, Nat.reduceBEq, ↓reduceIte, Nat.reduceEqDiff, Nat.reduceAdd, Nat.reduceMul, Nat.reduceSub, Int.reduceToNat, Nat.reduceLeDiff, Int.reduceNeg, Int.reduceEq, Int.reduceLT, Int.reduceLE, Int.reduceBEq, Int.reduceBNe, Int.reduceToNat, dis])
            exact hR ⟨wl, ol ++ [⟨ticket, [120], -1⟩], ticket + 1, at_, rel, drp, last, i + 1⟩ (by simp only []; omega) ⟨hg2, by simp only [← List.append_assoc, ← hq, hlen]; omega, by simp only [← List.append_assoc, ← hq, hlen]; omega, by simp only []; omega, b1, b2, by simp only []; omega, by simp only []; omega⟩ _ (by simp [hq, vis, visL, visB, fillR, rowsAt, toDs, toD, ↓ops_cons, ↓ops_consz, fzTs, fzLs, rg, rd, o, oz, kc, kb, ks, kx, on, og, od, ogd, A.run, evI, evOpt, evs, evP, argF, V.cs, binD, fzV, fzL, dataVs, dataLs, V.data, L.data, unD, fillL, List.take_succ_cons, List.take_zero, List.drop_succ_cons, List.drop_zero, List.cons_append, ne_eq, Nat.reduceLT, Nat.reduceBEq, ↓reduceIte, Nat.reduceEqDiff, Nat.reduceAdd, Nat.reduceMul, Nat.reduceSub, Int.reduceToNat, Nat.reduceLeDiff, Int.reduceNeg, Int.reduceEq, Int.reduceLT, Int.reduceLE, Int.reduceBEq, Int.reduceBNe, Int.reduceToNat])
        · -- written
          cases ol with
          | nil =>
            rw [if_pos rfl] at hfirst
            (simp (disch := first | decide | omega | (intros; exact Eq.trans rfl rfl) | (simp only [puri]; done)) only [a5_0, encU_len, encU_at, hm4, hr4, hfirst, hrt, vis, visL, visB, fillR, rowsAt, toDs, toD, ↓ops_cons, ↓ops_consz, fzTs, fzLs, rg, rd, o, oz, kc, kb, ks, kx, on, og, od, ogd, A.run, evI, evOpt, evs, evP, argF, V.cs, binD, fzV, fzL, dataVs, dataLs, V.data, L.data, unD, fillL, List.take_succ_cons, List.take_zero, List.drop_succ_cons, List.drop_zero, List.cons_append, ne_eq, Nat.reduceLT, Nat.reduceBEq, ↓reduceIte, Nat.reduceEqDiff, Nat.reduceAdd, Nat.reduceMul, Nat.reduceSub, Int.reduceToNat, Nat.reduceLeDiff, Int.reduceNeg, Int.reduceEq, Int.reduceLT, Int.reduceLE, Int.reduceBEq, Int.reduceBNe, Int.reduceToNat, dis])
            exact hR ⟨wl, [], ticket, at_, rel, drp, last, i + 1⟩ (by simp only []; omega) ⟨hg, by simp only [← hq]; omega, by simp only [← hq]; omega, by simp only []; omega, b1, b2, by simp only []; omega, by simp only []; omega⟩ _ (by simp [hq, vis, visL, visB, fillR, rowsAt, toDs, toD, ↓ops_cons, ↓ops_consz, fzTs, fzLs, rg, rd, o, oz, kc, kb, ks, kx, on, og, od, ogd, A.run, evI, evOpt, evs, evP, argF, V.cs, binD, fzV, fzL, dataVs, dataLs, V.data, L.data, unD, fillL, List.take_succ_cons, List.take_zero, List.drop_succ_cons, List.drop_zero, List.cons_append, ne_eq, Nat.reduceLT, Nat.reduceBEq, ↓reduceIte, Nat.reduceEqDiff, Nat.reduceAdd, Nat.reduceMul, Nat.reduceSub, Int.reduceToNat, Nat.reduceLeDiff, Int.reduceNeg, Int.reduceEq, Int.reduceLT, Int.reduceLE, Int.reduceBEq, Int.reduceBNe, Int.reduceToNat])
          | cons e r =>
            rw [if_neg (by simp)] at hfirst
            have hlq : q.length = wl.length + (r.length + 1) := by rw [hq]; simp
            have hwr := write_spec q wl.length at_ (by omega) (by omega)
            have hg2 := hg.write
            have e1 : writeF q wl.length at_ = wl ++ [({ e with at_ := at_ } : Entry)] ++ r := by
              rw [writeF_in q _ _ (by omega)]
              simp [hq]
            rw [e1] at hwr
            have hrt2 := right_spec (wl ++ [({ e with at_ := at_ } : Entry)] ++ r) (by simp; omega)
            rw [hg2.right] at hrt2
            obtain ⟨q2, hq2⟩ : ∃ q2, q2 = wl ++ [({ e with at_ := at_ } : Entry)] ++ r := ⟨_, rfl⟩
            have hlen : q2.length = q.length := by rw [hq2, hlq]; simp
            rw [← hq2] at hrt2 hwr
            (simp (disch := first | decide | omega | (intros; exact Eq.trans rfl rfl) | (simp only [puri]; done)) only [a5_0, encU_len, encU_at, hm4, hr4, hfirst, hrt2, hwr, hlen, vis, visL, visB, fillR, rowsAt, toDs, toD, ↓ops_cons, ↓ops_consz, fzTs, fzLs, rg, rd, o, oz, kc, kb, ks, kx, on, og, od, ogd, A.run, evI, evOpt, evs, evP, argF, V.cs, binD, fzV, fzL, dataVs, dataLs, V.data, L.data, unD, fillL, List.take_succ_cons, List.take_zero, List.drop_succ_cons, List.drop_zero, List.cons_append, ne_eq, Nat.reduceLT, Nat.reduceBEq, ↓reduceIte, Nat.reduceEqDiff, Nat.reduceAdd, Nat.reduceMul, Nat.reduceSub, Int.reduceToNat, Nat.reduceLeDiff, Int.reduceNeg, Int.reduceEq, Int.reduceLT, Int.reduceLE, Int.reduceBEq, Int.reduceBNe, Int.reduceToNat, dis])
            exact hR ⟨wl ++ [({ e with at_ := at_ } : Entry)], r, ticket, at_ + 1, rel, drp, last, i + 1⟩ (by simp only []; omega) ⟨hg2, by simp only [← hq2, hlen]; omega, by simp only [← hq2, hlen]; omega, by simp only []; omega, b1, b2, by simp only []; omega, by simp only []; omega⟩ _ (by simp [hq2, vis, visL, visB, fillR, rowsAt, toDs, toD, ↓ops_cons, ↓ops_consz, fzTs, fzLs, rg, rd, o, oz, kc, kb, ks, kx, on, og, od, ogd, A.run, evI, evOpt, evs, evP, argF, V.cs, binD, fzV, fzL, dataVs, dataLs, V.data, L.data, unD, fillL, List.take_succ_cons, List.take_zero, List.drop_succ_cons, List.drop_zero, List.cons_append, ne_eq, Nat.reduceLT, Nat.reduceBEq, ↓reduceIte, Nat.reduceEqDiff, Nat.reduceAdd, Nat.reduceMul, Nat.reduceSub, Int.reduceToNat, Nat.reduceLeDiff, Int.reduceNeg, Int.reduceEq, Int.reduceLT, Int.reduceLE, Int.reduceBEq, Int.reduceBNe, Int.reduceToNat])
        · -- dropped
          cases ol with
          | nil =>
            rw [if_pos rfl] at hfirst
            (simp (disch := first | decide | omega | (intros; exact Eq.trans rfl rfl) | (simp only [puri]; done)) only [a5_0, encU_len, encU_at, hm4, hr4, hfirst, hrt, vis, visL, visB, fillR, rowsAt, toDs, toD, ↓ops_cons, ↓ops_consz, fzTs, fzLs, rg, rd, o, oz, kc, kb, ks, kx, on, og, od, ogd, A.run, evI, evOpt, evs, evP, argF, V.cs, binD, fzV, fzL, dataVs, dataLs, V.data, L.data, unD, fillL, List.take_succ_cons, List.take_zero, List.drop_succ_cons, List.drop_zero, List.cons_append, ne_eq, Nat.reduceLT, Nat.reduceBEq, ↓reduceIte, Nat.reduceEqDiff, Nat.reduceAdd, Nat.reduceMul, Nat.reduceSub, Int.reduceToNat, Nat.reduceLeDiff, Int.reduceNeg, Int.reduceEq, Int.reduceLT, Int.reduceLE, Int.reduceBEq, Int.reduceBNe, Int.reduceToNat, dis])
            exact hR ⟨wl, [], ticket, at_, rel, drp, last, i + 1⟩ (by simp only []; omega) ⟨hg, by simp only [← hq]; omega, by simp only [← hq]; omega, by simp only []; omega, b1, b2, by simp only []; omega, by simp only []; omega⟩ _ (by simp [hq, vis, visL, visB, fillR, rowsAt, toDs, toD, ↓ops_cons, ↓ops_consz, fzTs, fzLs, rg, rd, o, oz, kc, kb, ks, kx, on, og, od, ogd, A.run, evI, evOpt, evs, evP, argF, V.cs, binD, fzV, fzL, dataVs, dataLs, V.data, L.data, unD, fillL, List.take_succ_cons, List.take_zero, List.drop_succ_cons, List.drop_zero, List.cons_append, ne_eq, Nat.reduceLT, Nat.reduceBEq, ↓reduceIte, Nat.reduceEqDiff, Nat.reduceAdd, Nat.reduceMul, Nat.reduceSub, Int.reduceToNat, Nat.reduceLeDiff, Int.reduceNeg, Int.reduceEq, Int.reduceLT, Int.reduceLE, Int.reduceBEq, Int.reduceBNe, Int.reduceToNat])
          | cons e r =>
            rw [if_neg (by simp)] at hfirst
            have hlq : q.length = wl.length + (r.length + 1) := by rw [hq]; simp
            have hdr := drop_spec q wl.length (by omega) (by omega)
            have hg2 := hg.drop
            have e1 : q.take wl.length ++ q.drop (wl.length + 1) = wl ++ r := by simp [hq]
            rw [e1] at hdr
            have hrt2 := right_spec (wl ++ r) (by simp; omega)
            rw [hg2.right] at hrt2
            obtain ⟨q2, hq2⟩ : ∃ q2, q2 = wl ++ r := ⟨_, rfl⟩
            have hlen : q2.length = q.length - 1 := by rw [hq2, hlq]; simp
            rw [← hq2] at hrt2 hdr
            (simp (disch := first | decide | omega | (intros; exact Eq.trans rfl rfl) | (simp only [puri]; done)) only [a5_0, encU_len, encU_at, hm4, hr4, hfirst, hrt2, hdr, hlen, vis, visL, visB, fillR, rowsAt, toDs, toD, ↓ops_cons, ↓ops_consz, fzTs, fzLs, rg, rd, o, oz, kc, kb, ks, kx, on, og, od, ogd, A.run, evI, evOpt, evs, evP, argF, V.cs, binD, fzV, fzL, dataVs, dataLs, V.data, L.data, unD, fillL, List.take_succ_cons, List.take_zero, List.drop_succ_cons, List.drop_zero, List.cons_append, ne_eq, Nat.reduceLT, Nat.reduceBEq, ↓reduceIte, Nat.reduceEqDiff, Nat.reduceAdd, Nat.reduceMul, Nat.reduceSub, Int.reduceToNat, Nat.reduceLeDiff, Int.reduceNeg, Int.reduceEq, Int.reduceLT, Int.reduceLE, Int.reduceBEq, Int.reduceBNe, Int.reduceToNat, dis])
            exact hR ⟨wl, r, ticket, at_, rel, drp + 1, last, i + 1⟩ (by simp only []; omega) ⟨hg2, by simp only [← hq2, hlen]; omega, by simp only [← hq2, hlen]; omega, by simp only []; omega, b1, by simp only []; omega, by simp only []; omega, by simp only []; omega⟩ _ (by simp [hq2, vis, visL, visB, fillR, rowsAt, toDs, toD, ↓ops_cons, ↓ops_consz, fzTs, fzLs, rg, rd, o, oz, kc, kb, ks, kx, on, og, od, ogd, A.run, evI, evOpt, evs, evP, argF, V.cs, binD, fzV, fzL, dataVs, dataLs, V.data, L.data, unD, fillL, List.take_succ_cons, List.take_zero, List.drop_succ_cons, List.drop_zero, List.cons_append, ne_eq, Nat.reduceLT, Nat.reduceBEq, ↓reduceIte, Nat.reduceEqDiff, Nat.reduceAdd, Nat.reduceMul, Nat.reduceSub, Int.reduceToNat, Nat.reduceLeDiff, Int.reduceNeg, Int.reduceEq, Int.reduceLT, Int.reduceLE, Int.reduceBEq, Int.reduceBNe, Int.reduceToNat])
        · -- released
          have hd64 : acts[i].tdiv 64 = acts[i] / 64 := tdiv_pos hai.1
          have hr := release_spec q (at_ - acts[i] / 64) (by omega)
          obtain ⟨x, y, hxy, hN⟩ := hg.rel (at_ - acts[i] / 64)
          subst hxy
          rw [← hq] at hN
          have e1 : q.take x.length = x := by rw [hq]; simp
          have e2 : q.drop x.length = y ++ ol := by rw [hq]; simp
          rw [hN, e1, e2] at hr
          have hg2 := hg.release
          obtain ⟨q2, hq2⟩ : ∃ q2, q2 = y ++ ol := ⟨_, rfl⟩
          have hlen : q.length = x.length + q2.length := by rw [hq, hq2]; simp
          rw [← hq2] at hr
          (simp (disch := first | decide | omega | (intros; exact Eq.trans rfl rfl) | (simp only [puri]; done)) only [a5_0, encU_len, encU_at, hm4, hr4, hfirst, hd64, hr, vq, vis, visL, visB, fillR, rowsAt, toDs, toD, ↓ops_cons, ↓ops_consz, fzTs, fzLs, rg, rd, o, oz, kc, kb, ks, kx, on, og, od, ogd, A.run, evI, evOpt, evs, evP, argF, V.cs, binD, fzV, fzL, dataVs, dataLs, V.data, L.data, unD, fillL, List.take_succ_cons, List.take_zero, List.drop_succ_cons, List.drop_zero, List.cons_append, ne_eq, Nat.reduceLT, Nat.reduceBEq, ↓reduceIte, Nat.reduceEqDiff, Nat.reduceAdd, Nat.reduceMul, Nat.reduceSub, Int.reduceToNat, Nat.reduceLeDiff, Int.reduceNeg, Int.reduceEq, Int.reduceLT, Int.reduceLE, Int.reduceBEq, Int.reduceBNe, Int.reduceToNat, dis])
          obtain ⟨lastOf, hlo⟩ : ∃ lastOf : Nat → Int, ∀ j, lastOf j = match (x.take j).getLast? with | some e => e.ticket | none => last := ⟨_, fun _ => rfl⟩
          refine loop_data (σ := Nat) (fun j => x.length - j) (fun j => j ≤ x.length) (fun j => [vl (acts.map encU), vi n, vi ticket, vi at_, vi (rel + j), vi drp, vi (lastOf j), vi i, vl (q2.map Entry.enc), vl (x.map Entry.enc), vi j])
            (fun _ => (vb true, [])) (fun _ => by simp only [vis, visL, visB, fillR, rowsAt, toDs, toD, ↓ops_cons, ↓ops_consz, fzTs, fzLs, rg, rd, o, oz, kc, kb, ks, kx, on, og, od, ogd, A.run, evI, evOpt, evs, evP, argF, V.cs, binD, fzV, fzL, dataVs, dataLs, V.data, L.data, unD, fillL, List.take_succ_cons, List.take_zero, List.drop_succ_cons, List.drop_zero, List.cons_append, ne_eq, Nat.reduceLT, Nat.reduceBEq, ↓reduceIte, Nat.reduceEqDiff, Nat.reduceAdd, Nat.reduceMul, Nat.reduceSub, Int.reduceToNat, Nat.reduceLeDiff, Int.reduceNeg, Int.reduceEq, Int.reduceLT, Int.reduceLE, Int.reduceBEq, Int.reduceBNe, Int.reduceToNat]) ?_ 0 (Nat.zero_le _) _ (by simp [hlo, vis, visL, visB, fillR, rowsAt, toDs, toD, ↓ops_cons, ↓ops_consz, fzTs, fzLs, rg, rd, o, oz, kc, kb, ks, kx, on, og, od, ogd, A.run, evI, evOpt, evs, evP, argF, V.cs, binD, fzV, fzL, dataVs, dataLs, V.data, L.data, unD, fillL, List.take_succ_cons, List.take_zero, List.drop_succ_cons, List.drop_zero, List.cons_append, ne_eq, Nat.reduceLT, Nat.reduceBEq, ↓reduceIte, Nat.reduceEqDiff, Nat.reduceAdd, Nat.reduceMul, Nat.reduceSub, Int.reduceToNat, Nat.reduceLeDiff, Int.reduceNeg, Int.reduceEq, Int.reduceLT, Int.reduceLE, Int.reduceBEq, Int.reduceBNe, Int.reduceToNat])
          intro j hj R2 hR2
          rcases Nat.lt_or_ge j x.length with hjx | hjx
          · have hlt : lastOf j < x[j].ticket := by
              rw [hlo]
              cases j with
              | zero => simp; exact (hg.tk x[0] (by simp)).1
              | succ j =>
                have e3 : (x.take (j + 1)).getLast? = some x[j] := by
                  rw [take_succ_get x j (by omega), List.getLast?_concat]
                rw [e3]
                have hp := hg.pt
                rw [List.append_assoc, List.pairwise_append] at hp
                exact List.pairwise_iff_getElem.1 hp.1 j (j + 1) (by omega) hjx (by omega)
            have e4 : lastOf (j + 1) = x[j].ticket := by rw [hlo, take_succ_get x j hjx, List.getLast?_concat]
            (simp (disch := first | decide | omega | (intros; exact Eq.trans rfl rfl) | (simp only [puri]; done)) only [a5_1, Entry.len, Entry.at0, List.drop_zero, vis, visL, visB, fillR, rowsAt, toDs, toD, ↓ops_cons, ↓ops_consz, fzTs, fzLs, rg, rd, o, oz, kc, kb, ks, kx, on, og, od, ogd, A.run, evI, evOpt, evs, evP, argF, V.cs, binD, fzV, fzL, dataVs, dataLs, V.data, L.data, unD, fillL, List.take_succ_cons, List.take_zero, List.drop_succ_cons, List.drop_zero, List.cons_append, ne_eq, Nat.reduceLT, Nat.reduceBEq, ↓reduceIte, Nat.reduceEqDiff, Nat.reduceAdd, Nat.reduceMul, Nat.reduceSub, Int.reduceToNat, Nat.reduceLeDiff, Int.reduceNeg, Int.reduceEq, Int.reduceLT, Int.reduceLE, Int.reduceBEq, Int.reduceBNe, Int.reduceToNat, dis])
            exact hR2 (j + 1) (by omega) (by omega) _ (by simp [e4, vis, visL, visB, fillR, rowsAt, toDs, toD, ↓ops_cons, ↓ops_consz, fzTs, fzLs, rg, rd, o, oz, kc, kb, ks, kx, on, og, od, ogd, A.run, evI, evOpt, evs, evP, argF, V.cs, binD, fzV, fzL, dataVs, dataLs, V.data, L.data, unD, fillL, List.take_succ_cons, List.take_zero, List.drop_succ_cons, List.drop_zero, List.cons_append, ne_eq, Nat.reduceLT, Nat.reduceBEq, ↓reduceIte, Nat.reduceEqDiff, Nat.reduceAdd, Nat.reduceMul, Nat.reduceSub, Int.reduceToNat, Nat.reduceLeDiff, Int.reduceNeg, Int.reduceEq, Int.reduceLT, Int.reduceLE, Int.reduceBEq, Int.reduceBNe, Int.reduceToNat]; omega)
          · have hjl : j = x.length := by omega
            subst hjl
            have e5 : lastOf x.length = match x.getLast? with | some e => e.ticket | none => last := by rw [hlo]; simp
            have hrt2 := right_spec (y ++ ol) (by rw [← hq2]; omega)
            rw [hg2.right, ← hq2] at hrt2
            (simp (disch := first | decide | omega | (intros; exact Eq.trans rfl rfl) | (simp only [puri]; done)) only [a5_1, hrt2, vis, visL, visB, fillR, rowsAt, toDs, toD, ↓ops_cons, ↓ops_consz, fzTs, fzLs, rg, rd, o, oz, kc, kb, ks, kx, on, og, od, ogd, A.run, evI, evOpt, evs, evP, argF, V.cs, binD, fzV, fzL, dataVs, dataLs, V.data, L.data, unD, fillL, List.take_succ_cons, List.take_zero, List.drop_succ_cons, List.drop_zero, List.cons_append, ne_eq, Nat.reduceLT, Nat.reduceBEq, ↓reduceIte, Nat.reduceEqDiff, Nat.reduceAdd, Nat.reduceMul, Nat.reduceSub, Int.reduceToNat, Nat.reduceLeDiff, Int.reduceNeg, Int.reduceEq, Int.reduceLT, Int.reduceLE, Int.reduceBEq, Int.reduceBNe, Int.reduceToNat, dis])
            exact hR ⟨y, ol, ticket, at_, rel + x.length, drp, lastOf x.length, i + 1⟩ (by simp only []; omega) ⟨by simp only []; rw [e5]; exact hg2, by simp only [← hq2]; omega, by simp only [← hq2]; omega, by simp only []; omega, by simp only []; omega, b2, by simp only []; omega, by simp only []; omega⟩ _ (by simp [hq2, vis, visL, visB, fillR, rowsAt, toDs, toD, ↓ops_cons, ↓ops_consz, fzTs, fzLs, rg, rd, o, oz, kc, kb, ks, kx, on, og, od, ogd, A.run, evI, evOpt, evs, evP, argF, V.cs, binD, fzV, fzL, dataVs, dataLs, V.data, L.data, unD, fillL, List.take_succ_cons, List.take_zero, List.drop_succ_cons, List.drop_zero, List.cons_append, ne_eq, Nat.reduceLT, Nat.reduceBEq, ↓reduceIte, Nat.reduceEqDiff, Nat.reduceAdd, Nat.reduceMul, Nat.reduceSub, Int.reduceToNat, Nat.reduceLeDiff, Int.reduceNeg, Int.reduceEq, Int.reduceLT, Int.reduceLE, Int.reduceBEq, Int.reduceBNe, Int.reduceToNat])
      · (simp (disch := first | decide | omega | (intros; exact Eq.trans rfl rfl) | (simp only [puri]; done)) only [a5_0, haw, vis, visL, visB, fillR, rowsAt, toDs, toD, ↓ops_cons, ↓ops_consz, fzTs, fzLs, rg, rd, o, oz, kc, kb, ks, kx, on, og, od, ogd, A.run, evI, evOpt, evs, evP, argF, V.cs, binD, fzV, fzL, dataVs, dataLs, V.data, L.data, unD, fillL, List.take_succ_cons, List.take_zero, List.drop_succ_cons, List.drop_zero, List.cons_append, ne_eq, Nat.reduceLT, Nat.reduceBEq, ↓reduceIte, Nat.reduceEqDiff, Nat.reduceAdd, Nat.reduceMul, Nat.reduceSub, Int.reduceToNat, Nat.reduceLeDiff, Int.reduceNeg, Int.reduceEq, Int.reduceLT, Int.reduceLE, Int.reduceBEq, Int.reduceBNe, Int.reduceToNat, dis])
    · exact ⟨⟨by simp, by simp, by simp, by simp, by simp, by simp, by simp⟩, by simp; omega, by simp, by simp, by simp, by simp, by simp, by simp⟩
  · (simp (disch := first | decide | omega | (intros; exact Eq.trans rfl rfl) | (simp only [puri]; done)) only [a5, haw, vis, visL, visB, fillR, rowsAt, toDs, toD, ↓ops_cons, ↓ops_consz, fzTs, fzLs, rg, rd, o, oz, kc, kb, ks, kx, on, og, od, ogd, A.run, evI, evOpt, evs, evP, argF, V.cs, binD, fzV, fzL, dataVs, dataLs, V.data, L.data, unD, fillL, List.take_succ_cons, List.take_zero, List.drop_succ_cons, List.drop_zero, List.cons_append, ne_eq, Nat.reduceLT, Nat.reduceBEq, ↓reduceIte, Nat.reduceEqDiff, Nat.reduceAdd, Nat.reduceMul, Nat.reduceSub, Int.reduceToNat, Nat.reduceLeDiff, Int.reduceNeg, Int.reduceEq, Int.reduceLT, Int.reduceLE, Int.reduceBEq, Int.reduceBNe, Int.reduceToNat, dis])
end Go.Proofs.Ytaaonidocakiiaa
