import Derived.Test.YtoehimghaanjfaaK09
set_option linter.unusedSimpArgs false
set_option linter.unusedVariables false
namespace Go.Proofs.Ytoehimghaanjfaa
open Go.Vi
set_option linter.unusedSimpArgs false

set_option maxHeartbeats 4000000 in
set_option maxRecDepth 8000 in
theorem once_spec (l : List Act) (m : Nat) (hm : m < 256) (hl : l.length ≤ 9223372036854775807) (hok : ∀ a ∈ l, a.ok) : call 4 [vl (l.map Act.enc), vk .u8 m] [] = some (vb true, []) := by
  apply enterS s4 rfl
  by_cases c : l.length ≤ 40
  · have em : ((m : Int)).tmod 20 = ((m % 20 : Nat) : Int) := by rw [Int.tmod_eq_emod_of_nonneg (by omega)]; omega
    have hmod : m % 20 < 20 := Nat.mod_lt _ (by decide)
    obtain ⟨n, hn⟩ : ∃ n, 1 + m % 20 = n := ⟨_, rfl⟩
    have hnn : (1 : Int) + ((m % 20 : Nat) : Int) = (n : Int) := by omega
    have n1 : 1 ≤ n ∧ n ≤ 20 := by omega
    have p0 := arm_spec 0 0 n [] (by decide) (by omega) (by decide) List.Pairwise.nil (by simp)
    have ei : insF ⟨0, 0 + (if 1 > (n : Int) then 1 else (n : Int))⟩ (List.eraseP (isId 0) []) = [⟨0, n⟩] := by
      rw [if_neg (by omega), Int.zero_add]; rfl
    rw [ei] at p0
    simp only [wh, List.map_nil, List.map_cons] at p0
    (simp (disch := first | decide | omega | (intros; exact Eq.trans rfl rfl) | (simp only [puri]; done)) only [a4, em, hnn, p0, vis, visL, visB, fillR, rowsAt, toDs, toD, ↓ops_cons, ↓ops_consz, fzTs, fzLs, rg, rd, o, oz, kc, kb, ks, kx, on, og, od, ogd, A.run, evI, evOpt, evs, evP, argF, V.cs, binD, fzV, fzL, fzVs, dataVs, dataLs, V.data, L.data, unD, fillL, List.take_succ_cons, List.take_zero, List.drop_succ_cons, List.drop_zero, List.cons_append, ne_eq, Nat.reduceLT, Nat.reduceBEq, ↓reduceIte, Nat.reduceEqDiff, Nat.reduceAdd, Nat.reduceMul, Nat.reduceSub, Int.reduceToNat, Nat.reduceLeDiff, Int.reduceNeg, Int.reduceEq, Int.reduceLT, Int.reduceLE, Int.reduceBEq, Int.reduceBNe, Int.reduceToNat, dis])
    refine loop_box (σ := St19) (fun s => l.length + 30 - s.i) (fun s => Ok19 n l.length s) (fun s => [vl (l.map Act.enc), vi n, .one (.p 0 0), vi s.t, vi s.r, vi s.i]) (fun s => ([.cells [.d (.i .i64 s.t), .d (.l (s.q.map Alarm.enc))]] : Hp)) (fun _ => (vb true, ([] : Hp))) ?_ ⟨0, 0, 0, [⟨0, n⟩]⟩ ⟨by simp only; omega, Nat.le_refl _, by simp only; omega, Nat.le_refl _, List.pairwise_singleton .., List.pairwise_singleton .., .inl ⟨by simp only; omega, List.mem_singleton_self _, rfl⟩⟩ _ _ (at_headM (by decide) (by simp only [List.map_cons, List.map_nil, vis, visL, visB, fillR, rowsAt, toDs, toD, ↓ops_cons, ↓ops_consz, fzTs, fzLs, rg, rd, o, oz, kc, kb, ks, kx, on, og, od, ogd, A.run, evI, evOpt, evs, evP, argF, V.cs, binD, fzV, fzL, fzVs, dataVs, dataLs, V.data, L.data, unD, fillL, List.take_succ_cons, List.take_zero, List.drop_succ_cons, List.drop_zero, List.cons_append, ne_eq, Nat.reduceLT, Nat.reduceBEq, ↓reduceIte, Nat.reduceEqDiff, Nat.reduceAdd, Nat.reduceMul, Nat.reduceSub, Int.reduceToNat, Nat.reduceLeDiff, Int.reduceNeg, Int.reduceEq, Int.reduceLT, Int.reduceLE, Int.reduceBEq, Int.reduceBNe, Int.reduceToNat]; exact rfl) (by rfl) (by rfl) (by rfl))
    intro s hs R hR
    have hsi := hs.i
    have hst := hs.t
    have hsl := hs.len
    rcases Nat.lt_or_ge s.i (l.length + 30) with hi | hi
    · rcases Nat.lt_or_ge s.i l.length with h | h
      · obtain ⟨o1, o2, o3⟩ := hok l[s.i] (List.getElem_mem h)
        obtain ⟨mx, hmx, hmx0⟩ : ∃ mx : Int, (if 0 > l[s.i].id then 0 else l[s.i].id) = mx ∧ 0 ≤ mx := ⟨_, rfl, by split <;> omega⟩
        obtain ⟨md, hmd, hmd0⟩ : ∃ md : Int, mx.tmod 5 = md ∧ 0 ≤ md ∧ md < 5 := ⟨_, rfl, by rw [Int.tmod_eq_emod_of_nonneg hmx0]; omega⟩
        by_cases ca : 1099511627776 < l[s.i].after
        · (simp (disch := first | decide | omega | (intros; exact Eq.trans rfl rfl) | (simp only [puri]; done)) only [a4_0, Act.len, Act.tkL, Act.lenL, Act.tk, Act.fd0, Act.fd1, Act.fd2, Act.at0, Act.at1, Act.at2, vis, visL, visB, fillR, rowsAt, toDs, toD, ↓ops_cons, ↓ops_consz, fzTs, fzLs, rg, rd, o, oz, kc, kb, ks, kx, on, og, od, ogd, A.run, evI, evOpt, evs, evP, argF, V.cs, binD, fzV, fzL, fzVs, dataVs, dataLs, V.data, L.data, unD, fillL, List.take_succ_cons, List.take_zero, List.drop_succ_cons, List.drop_zero, List.cons_append, ne_eq, Nat.reduceLT, Nat.reduceBEq, ↓reduceIte, Nat.reduceEqDiff, Nat.reduceAdd, Nat.reduceMul, Nat.reduceSub, Int.reduceToNat, Nat.reduceLeDiff, Int.reduceNeg, Int.reduceEq, Int.reduceLT, Int.reduceLE, Int.reduceBEq, Int.reduceBNe, Int.reduceToNat, dis, vdr, A.kind, A.xs, optX])
          exact hR ⟨s.i + 1, s.t, s.r, s.q⟩ (by simp only; omega) ⟨by simp only; omega, by simp only; omega, by simp only; omega, by simp only; omega, hs.srt, hs.uni, hs.h0⟩ _ _ (at_headM (by decide) (by simp only [List.map_cons, List.map_nil, vis, visL, visB, fillR, rowsAt, toDs, toD, ↓ops_cons, ↓ops_consz, fzTs, fzLs, rg, rd, o, oz, kc, kb, ks, kx, on, og, od, ogd, A.run, evI, evOpt, evs, evP, argF, V.cs, binD, fzV, fzL, fzVs, dataVs, dataLs, V.data, L.data, unD, fillL, List.take_succ_cons, List.take_zero, List.drop_succ_cons, List.drop_zero, List.cons_append, ne_eq, Nat.reduceLT, Nat.reduceBEq, ↓reduceIte, Nat.reduceEqDiff, Nat.reduceAdd, Nat.reduceMul, Nat.reduceSub, Int.reduceToNat, Nat.reduceLeDiff, Int.reduceNeg, Int.reduceEq, Int.reduceLT, Int.reduceLE, Int.reduceBEq, Int.reduceBNe, Int.reduceToNat]; exact rfl) (by rfl) (by rfl) (by rfl))
        · by_cases k0 : l[s.i].kind = 0
          · have p1 := arm_spec s.t (1 + md) l[s.i].after s.q (by omega) (by omega) (by omega) (by rw [erase_cut _ _ hs.uni]; exact cut_srt hs.srt) (by rw [erase_cut _ _ hs.uni]; exact cut_ids)
            rw [erase_cut _ _ hs.uni] at p1
            have hs' := ok_arm hs h (a := ⟨1 + md, s.t + (if 1 > l[s.i].after then 1 else l[s.i].after)⟩) (by simp only; omega)
            simp only at hs'
            obtain ⟨Q, hQ⟩ : ∃ Q, insF ⟨1 + md, s.t + (if 1 > l[s.i].after then 1 else l[s.i].after)⟩ (cutF (1 + md) s.q) = Q := ⟨_, rfl⟩
            rw [hQ] at p1 hs'
            clear hQ
            have g1 := armed_spec s.t 0 Q (by have := hs'.len; simp only at this; omega)
            rw [any_zero hs'] at g1
            by_cases ht : s.t < n
            · rw [decide_eq_true ht] at g1
              (simp (disch := first | decide | omega | (intros; exact Eq.trans rfl rfl) | (simp only [puri]; done)) only [a4_0, Act.len, Act.tkL, Act.lenL, Act.tk, Act.fd0, Act.fd1, Act.fd2, Act.at0, Act.at1, Act.at2, hmx, hmd, k0, p1, g1, vis, visL, visB, fillR, rowsAt, toDs, toD, ↓ops_cons, ↓ops_consz, fzTs, fzLs, rg, rd, o, oz, kc, kb, ks, kx, on, og, od, ogd, A.run, evI, evOpt, evs, evP, argF, V.cs, binD, fzV, fzL, fzVs, dataVs, dataLs, V.data, L.data, unD, fillL, List.take_succ_cons, List.take_zero, List.drop_succ_cons, List.drop_zero, List.cons_append, ne_eq, Nat.reduceLT, Nat.reduceBEq, ↓reduceIte, Nat.reduceEqDiff, Nat.reduceAdd, Nat.reduceMul, Nat.reduceSub, Int.reduceToNat, Nat.reduceLeDiff, Int.reduceNeg, Int.reduceEq, Int.reduceLT, Int.reduceLE, Int.reduceBEq, Int.reduceBNe, Int.reduceToNat, dis, vdr, A.kind, A.xs, optX])
              exact hR _ (by simp only; omega) hs' _ _ (at_headM (by decide) (by simp only [List.map_cons, List.map_nil, vis, visL, visB, fillR, rowsAt, toDs, toD, ↓ops_cons, ↓ops_consz, fzTs, fzLs, rg, rd, o, oz, kc, kb, ks, kx, on, og, od, ogd, A.run, evI, evOpt, evs, evP, argF, V.cs, binD, fzV, fzL, fzVs, dataVs, dataLs, V.data, L.data, unD, fillL, List.take_succ_cons, List.take_zero, List.drop_succ_cons, List.drop_zero, List.cons_append, ne_eq, Nat.reduceLT, Nat.reduceBEq, ↓reduceIte, Nat.reduceEqDiff, Nat.reduceAdd, Nat.reduceMul, Nat.reduceSub, Int.reduceToNat, Nat.reduceLeDiff, Int.reduceNeg, Int.reduceEq, Int.reduceLT, Int.reduceLE, Int.reduceBEq, Int.reduceBNe, Int.reduceToNat]; exact rfl) (by rfl) (by rfl) (by rfl))
            · rw [decide_eq_false ht] at g1
              (simp (disch := first | decide | omega | (intros; exact Eq.trans rfl rfl) | (simp only [puri]; done)) only [a4_0, Act.len, Act.tkL, Act.lenL, Act.tk, Act.fd0, Act.fd1, Act.fd2, Act.at0, Act.at1, Act.at2, hmx, hmd, k0, p1, g1, vis, visL, visB, fillR, rowsAt, toDs, toD, ↓ops_cons, ↓ops_consz, fzTs, fzLs, rg, rd, o, oz, kc, kb, ks, kx, on, og, od, ogd, A.run, evI, evOpt, evs, evP, argF, V.cs, binD, fzV, fzL, fzVs, dataVs, dataLs, V.data, L.data, unD, fillL, List.take_succ_cons, List.take_zero, List.drop_succ_cons, List.drop_zero, List.cons_append, ne_eq, Nat.reduceLT, Nat.reduceBEq, ↓reduceIte, Nat.reduceEqDiff, Nat.reduceAdd, Nat.reduceMul, Nat.reduceSub, Int.reduceToNat, Nat.reduceLeDiff, Int.reduceNeg, Int.reduceEq, Int.reduceLT, Int.reduceLE, Int.reduceBEq, Int.reduceBNe, Int.reduceToNat, dis, vdr, A.kind, A.xs, optX])
              exact hR _ (by simp only; omega) hs' _ _ (at_headM (by decide) (by simp only [List.map_cons, List.map_nil, vis, visL, visB, fillR, rowsAt, toDs, toD, ↓ops_cons, ↓ops_consz, fzTs, fzLs, rg, rd, o, oz, kc, kb, ks, kx, on, og, od, ogd, A.run, evI, evOpt, evs, evP, argF, V.cs, binD, fzV, fzL, fzVs, dataVs, dataLs, V.data, L.data, unD, fillL, List.take_succ_cons, List.take_zero, List.drop_succ_cons, List.drop_zero, List.cons_append, ne_eq, Nat.reduceLT, Nat.reduceBEq, ↓reduceIte, Nat.reduceEqDiff, Nat.reduceAdd, Nat.reduceMul, Nat.reduceSub, Int.reduceToNat, Nat.reduceLeDiff, Int.reduceNeg, Int.reduceEq, Int.reduceLT, Int.reduceLE, Int.reduceBEq, Int.reduceBNe, Int.reduceToNat]; exact rfl) (by rfl) (by rfl) (by rfl))
          · by_cases k1 : l[s.i].kind = 1
            · have p1 := cancel_spec s.t (1 + md) s.q (by omega)
              rw [erase_cut _ _ hs.uni] at p1
              have hs' := ok_cut hs h (id := 1 + md) (by omega)
              obtain ⟨Q, hQ⟩ : ∃ Q, cutF (1 + md) s.q = Q := ⟨_, rfl⟩
              rw [hQ] at p1 hs'
              clear hQ
              have g1 := armed_spec s.t 0 Q (by have := hs'.len; simp only at this; omega)
              rw [any_zero hs'] at g1
              by_cases ht : s.t < n
              · rw [decide_eq_true ht] at g1
                (simp (disch := first | decide | omega | (intros; exact Eq.trans rfl rfl) | (simp only [puri]; done)) only [a4_0, Act.len, Act.tkL, Act.lenL, Act.tk, Act.fd0, Act.fd1, Act.fd2, Act.at0, Act.at1, Act.at2, hmx, hmd, k0, k1, p1, g1, vis, visL, visB, fillR, rowsAt, toDs, toD, ↓ops_cons, ↓ops_consz, fzTs, fzLs, rg, rd, o, oz, kc, kb, ks, kx, on, og, od, ogd, A.run, evI, evOpt, evs, evP, argF, V.cs, binD, fzV, fzL, fzVs, dataVs, dataLs, V.data, L.data, unD, fillL, List.take_succ_cons, List.take_zero, List.drop_succ_cons, List.drop_zero, List.cons_append, ne_eq, Nat.reduceLT, Nat.reduceBEq, ↓reduceIte, Nat.reduceEqDiff, Nat.reduceAdd, Nat.reduceMul, Nat.reduceSub, Int.reduceToNat, Nat.reduceLeDiff, Int.reduceNeg, Int.reduceEq, Int.reduceLT, Int.reduceLE, Int.reduceBEq, Int.reduceBNe, Int.reduceToNat, dis, vdr, A.kind, A.xs, optX])
                exact hR _ (by simp only; omega) hs' _ _ (at_headM (by decide) (by simp only [List.map_cons, List.map_nil, vis, visL, visB, fillR, rowsAt, toDs, toD, ↓ops_cons, ↓ops_consz, fzTs, fzLs, rg, rd, o, oz, kc, kb, ks, kx, on, og, od, ogd, A.run, evI, evOpt, evs, evP, argF, V.cs, binD, fzV, fzL, fzVs, dataVs, dataLs, V.data, L.data, unD, fillL, List.take_succ_cons, List.take_zero, List.drop_succ_cons, List.drop_zero, List.cons_append, ne_eq, Nat.reduceLT, Nat.reduceBEq, ↓reduceIte, Nat.reduceEqDiff, Nat.reduceAdd, Nat.reduceMul, Nat.reduceSub, Int.reduceToNat, Nat.reduceLeDiff, Int.reduceNeg, Int.reduceEq, Int.reduceLT, Int.reduceLE, Int.reduceBEq, Int.reduceBNe, Int.reduceToNat]; exact rfl) (by rfl) (by rfl) (by rfl))
              · rw [decide_eq_false ht] at g1
                (simp (disch := first | decide | omega | (intros; exact Eq.trans rfl rfl) | (simp only [puri]; done)) only [a4_0, Act.len, Act.tkL, Act.lenL, Act.tk, Act.fd0, Act.fd1, Act.fd2, Act.at0, Act.at1, Act.at2, hmx, hmd, k0, k1, p1, g1, vis, visL, visB, fillR, rowsAt, toDs, toD, ↓ops_cons, ↓ops_consz, fzTs, fzLs, rg, rd, o, oz, kc, kb, ks, kx, on, og, od, ogd, A.run, evI, evOpt, evs, evP, argF, V.cs, binD, fzV, fzL, fzVs, dataVs, dataLs, V.data, L.data, unD, fillL, List.take_succ_cons, List.take_zero, List.drop_succ_cons, List.drop_zero, List.cons_append, ne_eq, Nat.reduceLT, Nat.reduceBEq, ↓reduceIte, Nat.reduceEqDiff, Nat.reduceAdd, Nat.reduceMul, Nat.reduceSub, Int.reduceToNat, Nat.reduceLeDiff, Int.reduceNeg, Int.reduceEq, Int.reduceLT, Int.reduceLE, Int.reduceBEq, Int.reduceBNe, Int.reduceToNat, dis, vdr, A.kind, A.xs, optX])
                exact hR _ (by simp only; omega) hs' _ _ (at_headM (by decide) (by simp only [List.map_cons, List.map_nil, vis, visL, visB, fillR, rowsAt, toDs, toD, ↓ops_cons, ↓ops_consz, fzTs, fzLs, rg, rd, o, oz, kc, kb, ks, kx, on, og, od, ogd, A.run, evI, evOpt, evs, evP, argF, V.cs, binD, fzV, fzL, fzVs, dataVs, dataLs, V.data, L.data, unD, fillL, List.take_succ_cons, List.take_zero, List.drop_succ_cons, List.drop_zero, List.cons_append, ne_eq, Nat.reduceLT, Nat.reduceBEq, ↓reduceIte, Nat.reduceEqDiff, Nat.reduceAdd, Nat.reduceMul, Nat.reduceSub, Int.reduceToNat, Nat.reduceLeDiff, Int.reduceNeg, Int.reduceEq, Int.reduceLT, Int.reduceLE, Int.reduceBEq, Int.reduceBNe, Int.reduceToNat]; exact rfl) (by rfl) (by rfl) (by rfl))
            · have p1 := tick_spec s.t s.q (by omega) (by omega)
              obtain ⟨ts1, ts2⟩ := tick_split ((s.t : Int) + 1) s.q hs.srt
              rw [ts1, ts2] at p1
              obtain ⟨hs', hz'⟩ := ok_tick hs (by omega)
              obtain ⟨Q, hQ⟩ : ∃ Q, (List.filter (fun a => !due ((s.t : Int) + 1) a) s.q) = Q := ⟨_, rfl⟩
              obtain ⟨B, hB⟩ : ∃ B, (List.filter (due ((s.t : Int) + 1)) s.q) = B := ⟨_, rfl⟩
              rw [hQ, hB] at p1
              rw [hQ, hB] at hs'
              rw [hB] at hz'
              have hBl : B.length ≤ s.i + 1 := by rw [← hB]; have := List.length_filter_le (due ((s.t : Int) + 1)) s.q; omega
              have hQl : Q.length ≤ s.i + 1 + 1 := hs'.len
              clear hQ hB ts1 ts2
              have g1 := armed_spec ((s.t : Int) + 1) 0 Q (by omega)
              rw [any_zero hs'] at g1
              (simp (disch := first | decide | omega | (intros; exact Eq.trans rfl rfl) | (simp only [puri]; done)) only [a4_0, Act.len, Act.tkL, Act.lenL, Act.tk, Act.fd0, Act.fd1, Act.fd2, Act.at0, Act.at1, Act.at2, hmx, hmd, k0, k1, p1, vis, visL, visB, fillR, rowsAt, toDs, toD, ↓ops_cons, ↓ops_consz, fzTs, fzLs, rg, rd, o, oz, kc, kb, ks, kx, on, og, od, ogd, A.run, evI, evOpt, evs, evP, argF, V.cs, binD, fzV, fzL, fzVs, dataVs, dataLs, V.data, L.data, unD, fillL, List.take_succ_cons, List.take_zero, List.drop_succ_cons, List.drop_zero, List.cons_append, ne_eq, Nat.reduceLT, Nat.reduceBEq, ↓reduceIte, Nat.reduceEqDiff, Nat.reduceAdd, Nat.reduceMul, Nat.reduceSub, Int.reduceToNat, Nat.reduceLeDiff, Int.reduceNeg, Int.reduceEq, Int.reduceLT, Int.reduceLE, Int.reduceBEq, Int.reduceBNe, Int.reduceToNat, dis, vdr, A.kind, A.xs, optX])
              refine loop_box (σ := Nat) (fun k => B.length - k) (fun k => k ≤ B.length) (fun k => [vl (l.map Act.enc), vi n, .one (.p 0 0), vi ((s.t : Int) + 1), vi ((s.r + ((B.take k).filter (isId 0)).length : Nat) : Int), vi s.i, vl (B.map encI), vi k]) (fun k => ([.cells [.d (.i .i64 ((s.t : Int) + 1)), .d (.l (Q.map Alarm.enc))]] : Hp)) (fun _ => (vb true, ([] : Hp))) ?_ 0 (Nat.zero_le _) _ _ (at_headM (by decide) (by simp only [List.map_cons, List.map_nil, vis, visL, visB, fillR, rowsAt, toDs, toD, ↓ops_cons, ↓ops_consz, fzTs, fzLs, rg, rd, o, oz, kc, kb, ks, kx, on, og, od, ogd, A.run, evI, evOpt, evs, evP, argF, V.cs, binD, fzV, fzL, fzVs, dataVs, dataLs, V.data, L.data, unD, fillL, List.take_succ_cons, List.take_zero, List.drop_succ_cons, List.drop_zero, List.cons_append, ne_eq, Nat.reduceLT, Nat.reduceBEq, ↓reduceIte, Nat.reduceEqDiff, Nat.reduceAdd, Nat.reduceMul, Nat.reduceSub, Int.reduceToNat, Nat.reduceLeDiff, Int.reduceNeg, Int.reduceEq, Int.reduceLT, Int.reduceLE, Int.reduceBEq, Int.reduceBNe, Int.reduceToNat]; exact rfl) (by rfl) (by rfl) (by rfl))
              intro k hk R2 hR2
              have hle : ((B.take k).filter (isId 0)).length ≤ k := by
                have h1 := List.length_filter_le (isId 0) (B.take k)
                rw [List.length_take] at h1; omega
              have hr01 : s.r ≤ 1 := by rcases hs.h0 with ⟨_, _, h⟩ | ⟨_, _, h⟩ <;> omega
              rcases Nat.lt_or_ge k B.length with hkb | hkb
              · have ht := take_succ_get B k hkb
                by_cases d : B[k].id = 0
                · have e : ((B.take (k + 1)).filter (isId 0)).length = ((B.take k).filter (isId 0)).length + 1 := by
                    rw [ht, List.filter_append, List.length_append]
                    have : isId 0 B[k] = true := by simp [isId, d]
                    simp [this]
                  have hzk := hz' B[k] (List.getElem_mem hkb) d
                  have hzk2 : (s.t : Int) + 1 = (n : Int) := by omega
                  (simp (disch := first | decide | omega | (intros; exact Eq.trans rfl rfl) | (simp only [puri]; done)) only [a4_1, d, hzk2, vis, visL, visB, fillR, rowsAt, toDs, toD, ↓ops_cons, ↓ops_consz, fzTs, fzLs, rg, rd, o, oz, kc, kb, ks, kx, on, og, od, ogd, A.run, evI, evOpt, evs, evP, argF, V.cs, binD, fzV, fzL, fzVs, dataVs, dataLs, V.data, L.data, unD, fillL, List.take_succ_cons, List.take_zero, List.drop_succ_cons, List.drop_zero, List.cons_append, ne_eq, Nat.reduceLT, Nat.reduceBEq, ↓reduceIte, Nat.reduceEqDiff, Nat.reduceAdd, Nat.reduceMul, Nat.reduceSub, Int.reduceToNat, Nat.reduceLeDiff, Int.reduceNeg, Int.reduceEq, Int.reduceLT, Int.reduceLE, Int.reduceBEq, Int.reduceBNe, Int.reduceToNat, dis, vdr, A.kind, A.xs, optX])
                  have hR' := hR2 (k + 1) (by omega) (by omega)
                  rw [e, hzk2] at hR'
                  exact hR' _ _ (at_headM (by decide) (by simp only [List.map_cons, List.map_nil, vis, visL, visB, fillR, rowsAt, toDs, toD, ↓ops_cons, ↓ops_consz, fzTs, fzLs, rg, rd, o, oz, kc, kb, ks, kx, on, og, od, ogd, A.run, evI, evOpt, evs, evP, argF, V.cs, binD, fzV, fzL, fzVs, dataVs, dataLs, V.data, L.data, unD, fillL, List.take_succ_cons, List.take_zero, List.drop_succ_cons, List.drop_zero, List.cons_append, ne_eq, Nat.reduceLT, Nat.reduceBEq, ↓reduceIte, Nat.reduceEqDiff, Nat.reduceAdd, Nat.reduceMul, Nat.reduceSub, Int.reduceToNat, Nat.reduceLeDiff, Int.reduceNeg, Int.reduceEq, Int.reduceLT, Int.reduceLE, Int.reduceBEq, Int.reduceBNe, Int.reduceToNat]; exact rfl) (by rfl) (by rfl) (by rfl))
                · have e : ((B.take (k + 1)).filter (isId 0)).length = ((B.take k).filter (isId 0)).length := by
                    rw [ht, List.filter_append, List.length_append]
                    have : isId 0 B[k] = false := by simpa [isId] using d
                    simp [this]
                  (simp (disch := first | decide | omega | (intros; exact Eq.trans rfl rfl) | (simp only [puri]; done)) only [a4_1, d, vis, visL, visB, fillR, rowsAt, toDs, toD, ↓ops_cons, ↓ops_consz, fzTs, fzLs, rg, rd, o, oz, kc, kb, ks, kx, on, og, od, ogd, A.run, evI, evOpt, evs, evP, argF, V.cs, binD, fzV, fzL, fzVs, dataVs, dataLs, V.data, L.data, unD, fillL, List.take_succ_cons, List.take_zero, List.drop_succ_cons, List.drop_zero, List.cons_append, ne_eq, Nat.reduceLT, Nat.reduceBEq, ↓reduceIte, Nat.reduceEqDiff, Nat.reduceAdd, Nat.reduceMul, Nat.reduceSub, Int.reduceToNat, Nat.reduceLeDiff, Int.reduceNeg, Int.reduceEq, Int.reduceLT, Int.reduceLE, Int.reduceBEq, Int.reduceBNe, Int.reduceToNat, dis, vdr, A.kind, A.xs, optX])
                  have hR' := hR2 (k + 1) (by omega) (by omega)
                  rw [e] at hR'
                  exact hR' _ _ (at_headM (by decide) (by simp only [List.map_cons, List.map_nil, vis, visL, visB, fillR, rowsAt, toDs, toD, ↓ops_cons, ↓ops_consz, fzTs, fzLs, rg, rd, o, oz, kc, kb, ks, kx, on, og, od, ogd, A.run, evI, evOpt, evs, evP, argF, V.cs, binD, fzV, fzL, fzVs, dataVs, dataLs, V.data, L.data, unD, fillL, List.take_succ_cons, List.take_zero, List.drop_succ_cons, List.drop_zero, List.cons_append, ne_eq, Nat.reduceLT, Nat.reduceBEq, ↓reduceIte, Nat.reduceEqDiff, Nat.reduceAdd, Nat.reduceMul, Nat.reduceSub, Int.reduceToNat, Nat.reduceLeDiff, Int.reduceNeg, Int.reduceEq, Int.reduceLT, Int.reduceLE, Int.reduceBEq, Int.reduceBNe, Int.reduceToNat]; exact rfl) (by rfl) (by rfl) (by rfl))
              · have e : B.take k = B := List.take_of_length_le hkb
                rw [e]
                by_cases ht : s.t + 1 < n
                · rw [decide_eq_true ht] at g1
                  (simp (disch := first | decide | omega | (intros; exact Eq.trans rfl rfl) | (simp only [puri]; done)) only [a4_1, g1, vis, visL, visB, fillR, rowsAt, toDs, toD, ↓ops_cons, ↓ops_consz, fzTs, fzLs, rg, rd, o, oz, kc, kb, ks, kx, on, og, od, ogd, A.run, evI, evOpt, evs, evP, argF, V.cs, binD, fzV, fzL, fzVs, dataVs, dataLs, V.data, L.data, unD, fillL, List.take_succ_cons, List.take_zero, List.drop_succ_cons, List.drop_zero, List.cons_append, ne_eq, Nat.reduceLT, Nat.reduceBEq, ↓reduceIte, Nat.reduceEqDiff, Nat.reduceAdd, Nat.reduceMul, Nat.reduceSub, Int.reduceToNat, Nat.reduceLeDiff, Int.reduceNeg, Int.reduceEq, Int.reduceLT, Int.reduceLE, Int.reduceBEq, Int.reduceBNe, Int.reduceToNat, dis, vdr, A.kind, A.xs, optX])
                  exact hR _ (by simp only; omega) hs' _ _ (at_headM (by decide) (by simp only [List.map_cons, List.map_nil, vis, visL, visB, fillR, rowsAt, toDs, toD, ↓ops_cons, ↓ops_consz, fzTs, fzLs, rg, rd, o, oz, kc, kb, ks, kx, on, og, od, ogd, A.run, evI, evOpt, evs, evP, argF, V.cs, binD, fzV, fzL, fzVs, dataVs, dataLs, V.data, L.data, unD, fillL, List.take_succ_cons, List.take_zero, List.drop_succ_cons, List.drop_zero, List.cons_append, ne_eq, Nat.reduceLT, Nat.reduceBEq, ↓reduceIte, Nat.reduceEqDiff, Nat.reduceAdd, Nat.reduceMul, Nat.reduceSub, Int.reduceToNat, Nat.reduceLeDiff, Int.reduceNeg, Int.reduceEq, Int.reduceLT, Int.reduceLE, Int.reduceBEq, Int.reduceBNe, Int.reduceToNat]; exact rfl) (by rfl) (by rfl) (by rfl))
                · rw [decide_eq_false ht] at g1
                  (simp (disch := first | decide | omega | (intros; exact Eq.trans rfl rfl) | (simp only [puri]; done)) only [a4_1, g1, vis, visL, visB, fillR, rowsAt, toDs, toD, ↓ops_cons, ↓ops_consz, fzTs, fzLs, rg, rd, o, oz, kc, kb, ks, kx, on, og, od, ogd, A.run, evI, evOpt, evs, evP, argF, V.cs, binD, fzV, fzL, fzVs, dataVs, dataLs, V.data, L.data, unD, fillL, List.take_succ_cons, List.take_zero, List.drop_succ_cons, List.drop_zero, List.cons_append, ne_eq, Nat.reduceLT, Nat.reduceBEq, ↓reduceIte, Nat.reduceEqDiff, Nat.reduceAdd, Nat.reduceMul, Nat.reduceSub, Int.reduceToNat, Nat.reduceLeDiff, Int.reduceNeg, Int.reduceEq, Int.reduceLT, Int.reduceLE, Int.reduceBEq, Int.reduceBNe, Int.reduceToNat, dis, vdr, A.kind, A.xs, optX])
                  exact hR _ (by simp only; omega) hs' _ _ (at_headM (by decide) (by simp only [List.map_cons, List.map_nil, vis, visL, visB, fillR, rowsAt, toDs, toD, ↓ops_cons, ↓ops_consz, fzTs, fzLs, rg, rd, o, oz, kc, kb, ks, kx, on, og, od, ogd, A.run, evI, evOpt, evs, evP, argF, V.cs, binD, fzV, fzL, fzVs, dataVs, dataLs, V.data, L.data, unD, fillL, List.take_succ_cons, List.take_zero, List.drop_succ_cons, List.drop_zero, List.cons_append, ne_eq, Nat.reduceLT, Nat.reduceBEq, ↓reduceIte, Nat.reduceEqDiff, Nat.reduceAdd, Nat.reduceMul, Nat.reduceSub, Int.reduceToNat, Nat.reduceLeDiff, Int.reduceNeg, Int.reduceEq, Int.reduceLT, Int.reduceLE, Int.reduceBEq, Int.reduceBNe, Int.reduceToNat]; exact rfl) (by rfl) (by rfl) (by rfl))

      · have p1 := tick_spec s.t s.q (by omega) (by omega)
        obtain ⟨ts1, ts2⟩ := tick_split ((s.t : Int) + 1) s.q hs.srt
        rw [ts1, ts2] at p1
        obtain ⟨hs', hz'⟩ := ok_tick hs (by omega)
        obtain ⟨Q, hQ⟩ : ∃ Q, (List.filter (fun a => !due ((s.t : Int) + 1) a) s.q) = Q := ⟨_, rfl⟩
        obtain ⟨B, hB⟩ : ∃ B, (List.filter (due ((s.t : Int) + 1)) s.q) = B := ⟨_, rfl⟩
        rw [hQ, hB] at p1
        rw [hQ, hB] at hs'
        rw [hB] at hz'
        have hBl : B.length ≤ s.i + 1 := by rw [← hB]; have := List.length_filter_le (due ((s.t : Int) + 1)) s.q; omega
        have hQl : Q.length ≤ s.i + 1 + 1 := hs'.len
        clear hQ hB ts1 ts2
        have g1 := armed_spec ((s.t : Int) + 1) 0 Q (by omega)
        rw [any_zero hs'] at g1
        (simp (disch := first | decide | omega | (intros; exact Eq.trans rfl rfl) | (simp only [puri]; done)) only [a4_0, Act.len, Act.tkL, Act.lenL, Act.tk, Act.fd0, Act.fd1, Act.fd2, Act.at0, Act.at1, Act.at2, p1, vis, visL, visB, fillR, rowsAt, toDs, toD, ↓ops_cons, ↓ops_consz, fzTs, fzLs, rg, rd, o, oz, kc, kb, ks, kx, on, og, od, ogd, A.run, evI, evOpt, evs, evP, argF, V.cs, binD, fzV, fzL, fzVs, dataVs, dataLs, V.data, L.data, unD, fillL, List.take_succ_cons, List.take_zero, List.drop_succ_cons, List.drop_zero, List.cons_append, ne_eq, Nat.reduceLT, Nat.reduceBEq, ↓reduceIte, Nat.reduceEqDiff, Nat.reduceAdd, Nat.reduceMul, Nat.reduceSub, Int.reduceToNat, Nat.reduceLeDiff, Int.reduceNeg, Int.reduceEq, Int.reduceLT, Int.reduceLE, Int.reduceBEq, Int.reduceBNe, Int.reduceToNat, dis, vdr, A.kind, A.xs, optX])
        refine loop_box (σ := Nat) (fun k => B.length - k) (fun k => k ≤ B.length) (fun k => [vl (l.map Act.enc), vi n, .one (.p 0 0), vi ((s.t : Int) + 1), vi ((s.r + ((B.take k).filter (isId 0)).length : Nat) : Int), vi s.i, vl (B.map encI), vi k]) (fun k => ([.cells [.d (.i .i64 ((s.t : Int) + 1)), .d (.l (Q.map Alarm.enc))]] : Hp)) (fun _ => (vb true, ([] : Hp))) ?_ 0 (Nat.zero_le _) _ _ (at_headM (by decide) (by simp only [List.map_cons, List.map_nil, vis, visL, visB, fillR, rowsAt, toDs, toD, ↓ops_cons, ↓ops_consz, fzTs, fzLs, rg, rd, o, oz, kc, kb, ks, kx, on, og, od, ogd, A.run, evI, evOpt, evs, evP, argF, V.cs, binD, fzV, fzL, fzVs, dataVs, dataLs, V.data, L.data, unD, fillL, List.take_succ_cons, List.take_zero, List.drop_succ_cons, List.drop_zero, List.cons_append, ne_eq, Nat.reduceLT, Nat.reduceBEq, ↓reduceIte, Nat.reduceEqDiff, Nat.reduceAdd, Nat.reduceMul, Nat.reduceSub, Int.reduceToNat, Nat.reduceLeDiff, Int.reduceNeg, Int.reduceEq, Int.reduceLT, Int.reduceLE, Int.reduceBEq, Int.reduceBNe, Int.reduceToNat]; exact rfl) (by rfl) (by rfl) (by rfl))
        intro k hk R2 hR2
        have hle : ((B.take k).filter (isId 0)).length ≤ k := by
          have h1 := List.length_filter_le (isId 0) (B.take k)
          rw [List.length_take] at h1; omega
        have hr01 : s.r ≤ 1 := by rcases hs.h0 with ⟨_, _, h⟩ | ⟨_, _, h⟩ <;> omega
        rcases Nat.lt_or_ge k B.length with hkb | hkb
        · have ht := take_succ_get B k hkb
          by_cases d : B[k].id = 0
          · have e : ((B.take (k + 1)).filter (isId 0)).length = ((B.take k).filter (isId 0)).length + 1 := by
              rw [ht, List.filter_append, List.length_append]
              have : isId 0 B[k] = true := by simp [isId, d]
              simp [this]
            have hzk := hz' B[k] (List.getElem_mem hkb) d
            have hzk2 : (s.t : Int) + 1 = (n : Int) := by omega
            (simp (disch := first | decide | omega | (intros; exact Eq.trans rfl rfl) | (simp only [puri]; done)) only [a4_1, d, hzk2, vis, visL, visB, fillR, rowsAt, toDs, toD, ↓ops_cons, ↓ops_consz, fzTs, fzLs, rg, rd, o, oz, kc, kb, ks, kx, on, og, od, ogd, A.run, evI, evOpt, evs, evP, argF, V.cs, binD, fzV, fzL, fzVs, dataVs, dataLs, V.data, L.data, unD, fillL, List.take_succ_cons, List.take_zero, List.drop_succ_cons, List.drop_zero, List.cons_append, ne_eq, Nat.reduceLT, Nat.reduceBEq, ↓reduceIte, Nat.reduceEqDiff, Nat.reduceAdd, Nat.reduceMul, Nat.reduceSub, Int.reduceToNat, Nat.reduceLeDiff, Int.reduceNeg, Int.reduceEq, Int.reduceLT, Int.reduceLE, Int.reduceBEq, Int.reduceBNe, Int.reduceToNat, dis, vdr, A.kind, A.xs, optX])
            have hR' := hR2 (k + 1) (by omega) (by omega)
            rw [e, hzk2] at hR'
            exact hR' _ _ (at_headM (by decide) (by simp only [List.map_cons, List.map_nil, vis, visL, visB, fillR, rowsAt, toDs, toD, ↓ops_cons, ↓ops_consz, fzTs, fzLs, rg, rd, o, oz, kc, kb, ks, kx, on, og, od, ogd, A.run, evI, evOpt, evs, evP, argF, V.cs, binD, fzV, fzL, fzVs, dataVs, dataLs, V.data, L.data, unD, fillL, List.take_succ_cons, List.take_zero, List.drop_succ_cons, List.drop_zero, List.cons_append, ne_eq, Nat.reduceLT, Nat.reduceBEq, ↓reduceIte, Nat.reduceEqDiff, Nat.reduceAdd, Nat.reduceMul, Nat.reduceSub, Int.reduceToNat, Nat.reduceLeDiff, Int.reduceNeg, Int.reduceEq, Int.reduceLT, Int.reduceLE, Int.reduceBEq, Int.reduceBNe, Int.reduceToNat]; exact rfl) (by rfl) (by rfl) (by rfl))
          · have e : ((B.take (k + 1)).filter (isId 0)).length = ((B.take k).filter (isId 0)).length := by
              rw [ht, List.filter_append, List.length_append]
              have : isId 0 B[k] = false := by simpa [isId] using d
              simp [this]
            (simp (disch := first | decide | omega | (intros; exact Eq.trans rfl rfl) | (simp only [puri]; done)) only [a4_1, d, vis, visL, visB, fillR, rowsAt, toDs, toD, ↓ops_cons, ↓ops_consz, fzTs, fzLs, rg, rd, o, oz, kc, kb, ks, kx, on, og, od, ogd, A.run, evI, evOpt, evs, evP, argF, V.cs, binD, fzV, fzL, fzVs, dataVs, dataLs, V.data, L.data, unD, fillL, List.take_succ_cons, List.take_zero, List.drop_succ_cons, List.drop_zero, List.cons_append, ne_eq, Nat.reduceLT, Nat.reduceBEq, ↓reduceIte, Nat.reduceEqDiff, Nat.reduceAdd, Nat.reduceMul, Nat.reduceSub, Int.reduceToNat, Nat.reduceLeDiff, Int.reduceNeg, Int.reduceEq, Int.reduceLT, Int.reduceLE, Int.reduceBEq, Int.reduceBNe, Int.reduceToNat, dis, vdr, A.kind, A.xs, optX])
            have hR' := hR2 (k + 1) (by omega) (by omega)
            rw [e] at hR'
            exact hR' _ _ (at_headM (by decide) (by simp only [List.map_cons, List.map_nil, vis, visL, visB, fillR, rowsAt, toDs, toD, ↓ops_cons, ↓ops_consz, fzTs, fzLs, rg, rd, o, oz, kc, kb, ks, kx, on, og, od, ogd, A.run, evI, evOpt, evs, evP, argF, V.cs, binD, fzV, fzL, fzVs, dataVs, dataLs, V.data, L.data, unD, fillL, List.take_succ_cons, List.take_zero, List.drop_succ_cons, List.drop_zero, List.cons_append, ne_eq, Nat.reduceLT, Nat.reduceBEq, ↓reduceIte, Nat.reduceEqDiff, Nat.reduceAdd, Nat.reduceMul, Nat.reduceSub, Int.reduceToNat, Nat.reduceLeDiff, Int.reduceNeg, Int.reduceEq, Int.reduceLT, Int.reduceLE, Int.reduceBEq, Int.reduceBNe, Int.reduceToNat]; exact rfl) (by rfl) (by rfl) (by rfl))
        · have e : B.take k = B := List.take_of_length_le hkb
          rw [e]
          by_cases ht : s.t + 1 < n
          · rw [decide_eq_true ht] at g1
            (simp (disch := first | decide | omega | (intros; exact Eq.trans rfl rfl) | (simp only [puri]; done)) only [a4_1, g1, vis, visL, visB, fillR, rowsAt, toDs, toD, ↓ops_cons, ↓ops_consz, fzTs, fzLs, rg, rd, o, oz, kc, kb, ks, kx, on, og, od, ogd, A.run, evI, evOpt, evs, evP, argF, V.cs, binD, fzV, fzL, fzVs, dataVs, dataLs, V.data, L.data, unD, fillL, List.take_succ_cons, List.take_zero, List.drop_succ_cons, List.drop_zero, List.cons_append, ne_eq, Nat.reduceLT, Nat.reduceBEq, ↓reduceIte, Nat.reduceEqDiff, Nat.reduceAdd, Nat.reduceMul, Nat.reduceSub, Int.reduceToNat, Nat.reduceLeDiff, Int.reduceNeg, Int.reduceEq, Int.reduceLT, Int.reduceLE, Int.reduceBEq, Int.reduceBNe, Int.reduceToNat, dis, vdr, A.kind, A.xs, optX])
            exact hR _ (by simp only; omega) hs' _ _ (at_headM (by decide) (by simp only [List.map_cons, List.map_nil, vis, visL, visB, fillR, rowsAt, toDs, toD, ↓ops_cons, ↓ops_consz, fzTs, fzLs, rg, rd, o, oz, kc, kb, ks, kx, on, og, od, ogd, A.run, evI, evOpt, evs, evP, argF, V.cs, binD, fzV, fzL, fzVs, dataVs, dataLs, V.data, L.data, unD, fillL, List.take_succ_cons, List.take_zero, List.drop_succ_cons, List.drop_zero, List.cons_append, ne_eq, Nat.reduceLT, Nat.reduceBEq, ↓reduceIte, Nat.reduceEqDiff, Nat.reduceAdd, Nat.reduceMul, Nat.reduceSub, Int.reduceToNat, Nat.reduceLeDiff, Int.reduceNeg, Int.reduceEq, Int.reduceLT, Int.reduceLE, Int.reduceBEq, Int.reduceBNe, Int.reduceToNat]; exact rfl) (by rfl) (by rfl) (by rfl))
          · rw [decide_eq_false ht] at g1
            (simp (disch := first | decide | omega | (intros; exact Eq.trans rfl rfl) | (simp only [puri]; done)) only [a4_1, g1, vis, visL, visB, fillR, rowsAt, toDs, toD, ↓ops_cons, ↓ops_consz, fzTs, fzLs, rg, rd, o, oz, kc, kb, ks, kx, on, og, od, ogd, A.run, evI, evOpt, evs, evP, argF, V.cs, binD, fzV, fzL, fzVs, dataVs, dataLs, V.data, L.data, unD, fillL, List.take_succ_cons, List.take_zero, List.drop_succ_cons, List.drop_zero, List.cons_append, ne_eq, Nat.reduceLT, Nat.reduceBEq, ↓reduceIte, Nat.reduceEqDiff, Nat.reduceAdd, Nat.reduceMul, Nat.reduceSub, Int.reduceToNat, Nat.reduceLeDiff, Int.reduceNeg, Int.reduceEq, Int.reduceLT, Int.reduceLE, Int.reduceBEq, Int.reduceBNe, Int.reduceToNat, dis, vdr, A.kind, A.xs, optX])
            exact hR _ (by simp only; omega) hs' _ _ (at_headM (by decide) (by simp only [List.map_cons, List.map_nil, vis, visL, visB, fillR, rowsAt, toDs, toD, ↓ops_cons, ↓ops_consz, fzTs, fzLs, rg, rd, o, oz, kc, kb, ks, kx, on, og, od, ogd, A.run, evI, evOpt, evs, evP, argF, V.cs, binD, fzV, fzL, fzVs, dataVs, dataLs, V.data, L.data, unD, fillL, List.take_succ_cons, List.take_zero, List.drop_succ_cons, List.drop_zero, List.cons_append, ne_eq, Nat.reduceLT, Nat.reduceBEq, ↓reduceIte, Nat.reduceEqDiff, Nat.reduceAdd, Nat.reduceMul, Nat.reduceSub, Int.reduceToNat, Nat.reduceLeDiff, Int.reduceNeg, Int.reduceEq, Int.reduceLT, Int.reduceLE, Int.reduceBEq, Int.reduceBNe, Int.reduceToNat]; exact rfl) (by rfl) (by rfl) (by rfl))

    · have hend : s.i = l.length + 30 := by omega
      have := hs.i2
      have h1 : s.r = 1 := by rcases hs.h0 with ⟨h, _, _⟩ | ⟨_, _, h⟩ <;> omega
      rw [h1]
      (simp (disch := first | decide | omega | (intros; exact Eq.trans rfl rfl) | (simp only [puri]; done)) only [a4_0, awake_spec, vis, visL, visB, fillR, rowsAt, toDs, toD, ↓ops_cons, ↓ops_consz, fzTs, fzLs, rg, rd, o, oz, kc, kb, ks, kx, on, og, od, ogd, A.run, evI, evOpt, evs, evP, argF, V.cs, binD, fzV, fzL, fzVs, dataVs, dataLs, V.data, L.data, unD, fillL, List.take_succ_cons, List.take_zero, List.drop_succ_cons, List.drop_zero, List.cons_append, ne_eq, Nat.reduceLT, Nat.reduceBEq, ↓reduceIte, Nat.reduceEqDiff, Nat.reduceAdd, Nat.reduceMul, Nat.reduceSub, Int.reduceToNat, Nat.reduceLeDiff, Int.reduceNeg, Int.reduceEq, Int.reduceLT, Int.reduceLE, Int.reduceBEq, Int.reduceBNe, Int.reduceToNat, dis, vdr, A.kind, A.xs, optX])
  · (simp (disch := first | decide | omega | (intros; exact Eq.trans rfl rfl) | (simp only [puri]; done)) only [a4, awake_spec, vis, visL, visB, fillR, rowsAt, toDs, toD, ↓ops_cons, ↓ops_consz, fzTs, fzLs, rg, rd, o, oz, kc, kb, ks, kx, on, og, od, ogd, A.run, evI, evOpt, evs, evP, argF, V.cs, binD, fzV, fzL, fzVs, dataVs, dataLs, V.data, L.data, unD, fillL, List.take_succ_cons, List.take_zero, List.drop_succ_cons, List.drop_zero, List.cons_append, ne_eq, Nat.reduceLT, Nat.reduceBEq, ↓reduceIte, Nat.reduceEqDiff, Nat.reduceAdd, Nat.reduceMul, Nat.reduceSub, Int.reduceToNat, Nat.reduceLeDiff, Int.reduceNeg, Int.reduceEq, Int.reduceLT, Int.reduceLE, Int.reduceBEq, Int.reduceBNe, Int.reduceToNat, dis])
end Go.Proofs.Ytoehimghaanjfaa
