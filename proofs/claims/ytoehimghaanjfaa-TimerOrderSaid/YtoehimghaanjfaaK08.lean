import Derived.Test.YtoehimghaanjfaaK07
set_option linter.unusedSimpArgs false
set_option linter.unusedVariables false
namespace Go.Proofs.Ytoehimghaanjfaa
open Go.Vi
set_option linter.unusedSimpArgs false

structure Act where
  kind : Int
  id : Int
  after : Int
  deriving DecidableEq
def Act.enc (e : Act) : List D := [.i .i64 e.kind, .i .i64 e.id, .i .i64 e.after]
theorem Act.len (e : Act) : e.enc.length = 3 := Eq.trans rfl rfl
theorem Act.tk (e : Act) : e.enc.take 3 = e.enc := Eq.trans rfl rfl
theorem Act.tkL (e : Act) : (e.enc.map L.d).take 3 = e.enc.map L.d := Eq.trans rfl rfl
theorem Act.dat (e : Act) : dataLs (e.enc.map L.d) = some (e.enc.map L.d) := Eq.trans rfl rfl
theorem Act.rfs (e : Act) : (e.enc.map L.d).flatMap L.refs = [] := Eq.trans rfl rfl
theorem Act.rn (e : Act) (g : Nat → Option Nat) : (e.enc.map L.d).map (L.ren g) = e.enc.map L.d := Eq.trans rfl rfl
theorem Act.lenL (e : Act) : (e.enc.map L.d).length = 3 := Eq.trans rfl rfl
theorem Act.at0 (e : Act) : e.enc[0]? = some (.i .i64 e.kind) := Eq.trans rfl rfl
theorem Act.fd0 (e : Act) : (e.enc.map L.d)[0]? = some (.d (.i .i64 e.kind)) := Eq.trans rfl rfl
theorem Act.at1 (e : Act) : (e.enc.drop 1)[0]? = some (.i .i64 e.id) := Eq.trans rfl rfl
theorem Act.fd1 (e : Act) : (e.enc.map L.d)[1]? = some (.d (.i .i64 e.id)) := Eq.trans rfl rfl
theorem Act.at2 (e : Act) : (e.enc.drop 2)[0]? = some (.i .i64 e.after) := Eq.trans rfl rfl
theorem Act.fd2 (e : Act) : (e.enc.map L.d)[2]? = some (.d (.i .i64 e.after)) := Eq.trans rfl rfl
theorem Act.up0 (e : Act) (x : Int) : .i .i64 x :: e.enc.drop 1 = ({ e with kind := x } : Act).enc := Eq.trans rfl rfl
theorem Act.up1 (e : Act) (x : Int) : e.enc.take 1 ++ [.i .i64 x] ++ e.enc.drop 2 = ({ e with id := x } : Act).enc := Eq.trans rfl rfl
theorem Act.up2 (e : Act) (x : Int) : e.enc.take 2 ++ [.i .i64 x] ++ e.enc.drop 3 = ({ e with after := x } : Act).enc := Eq.trans rfl rfl
def Act.ok (e : Act) : Prop := (-9223372036854775808 ≤ e.kind ∧ e.kind < 9223372036854775808) ∧ (-9223372036854775808 ≤ e.id ∧ e.id < 9223372036854775808) ∧ (-9223372036854775808 ≤ e.after ∧ e.after < 9223372036854775808)
def Act.ty : List Ty := [.i .i64, .i .i64, .i .i64]
theorem Act.eqs (a b : Act) : scEqs [0, 0, 0] (a.enc.map L.d) (b.enc.map L.d) = some (decide (a = b)) := by
  cases a; cases b
  simp only [Act.enc, List.map_cons, List.map_nil, scEqs, scEq, if_true, Act.mk.injEq]
  congr 1
  rw [Bool.eq_iff_iff]
  simp only [Bool.and_eq_true, beq_iff_eq, decide_eq_true_eq, and_true]
theorem Act.of (r : List D) (h : wfRow Act.ty r) : ∃ e : Act, r = e.enc ∧ e.ok := by
  simp only [Act.ty, wfRow, wfT] at h
  obtain ⟨_, _, rfl, ⟨x0, rfl, h0, g0⟩, ⟨_, _, rfl, ⟨x1, rfl, h1, g1⟩, ⟨_, _, rfl, ⟨x2, rfl, h2, g2⟩, rfl⟩⟩⟩ := h
  refine ⟨⟨x0, x1, x2⟩, rfl, ?_⟩
  exact ⟨⟨Int.le_trans (by decide) h0, Int.lt_of_le_of_lt g0 (by decide)⟩, ⟨Int.le_trans (by decide) h1, Int.lt_of_le_of_lt g1 (by decide)⟩, ⟨Int.le_trans (by decide) h2, Int.lt_of_le_of_lt g2 (by decide)⟩⟩


structure St18 where
  k : Nat
  now : Int
  q : List Alarm
  c : L
structure Ok18 (n : Nat) (s : St18) : Prop where
  k : s.k ≤ n
  now : 0 ≤ s.now ∧ s.now ≤ s.k
  len : s.q.length ≤ s.k
  srt : Srt s.q
  uni : Uniq s.q
  c : (s.c = .ns ∧ s.q = []) ∨ s.c = .d (.l (s.q.map Alarm.enc))

set_option maxHeartbeats 4000000 in
set_option maxRecDepth 8000 in
theorem plays_spec (l : List Act) (hl : l.length ≤ 9223372036854775807) (hok : ∀ a ∈ l, a.ok) : call 3 [vl (l.map Act.enc)] [] = some (vb true, []) := by
  apply enterS s3 rfl
  by_cases c : l.length ≤ 80
  · (simp (disch := first | decide | omega | (intros; exact Eq.trans rfl rfl) | (simp only [puri]; done)) only [a3, vis, visL, visB, fillR, rowsAt, toDs, toD, ↓ops_cons, ↓ops_consz, fzTs, fzLs, rg, rd, o, oz, kc, kb, ks, kx, on, og, od, ogd, A.run, evI, evOpt, evs, evP, argF, V.cs, binD, fzV, fzL, fzVs, dataVs, dataLs, V.data, L.data, unD, fillL, List.take_succ_cons, List.take_zero, List.drop_succ_cons, List.drop_zero, List.cons_append, ne_eq, Nat.reduceLT, Nat.reduceBEq, ↓reduceIte, Nat.reduceEqDiff, Nat.reduceAdd, Nat.reduceMul, Nat.reduceSub, Int.reduceToNat, Nat.reduceLeDiff, Int.reduceNeg, Int.reduceEq, Int.reduceLT, Int.reduceLE, Int.reduceBEq, Int.reduceBNe, Int.reduceToNat, dis])
    refine loop_box (σ := St18) (fun s => l.length - s.k) (fun s => Ok18 l.length s) (fun s => [vl (l.map Act.enc), .one (.p 0 0), .one (.p 1 0), vi s.k]) (fun s => ([.cells [.d (.i .i64 s.now), s.c], .cells [.d (.i .i64 s.now), s.c]] : Hp)) (fun _ => (vb true, ([] : Hp))) ?_ ⟨0, 0, [], .ns⟩ ⟨Nat.zero_le _, by decide, Nat.le_refl _, List.Pairwise.nil, List.Pairwise.nil, .inl ⟨rfl, rfl⟩⟩ _ _ (at_headM (by decide) (by simp only [List.map_cons, List.map_nil, vis, visL, visB, fillR, rowsAt, toDs, toD, ↓ops_cons, ↓ops_consz, fzTs, fzLs, rg, rd, o, oz, kc, kb, ks, kx, on, og, od, ogd, A.run, evI, evOpt, evs, evP, argF, V.cs, binD, fzV, fzL, fzVs, dataVs, dataLs, V.data, L.data, unD, fillL, List.take_succ_cons, List.take_zero, List.drop_succ_cons, List.drop_zero, List.cons_append, ne_eq, Nat.reduceLT, Nat.reduceBEq, ↓reduceIte, Nat.reduceEqDiff, Nat.reduceAdd, Nat.reduceMul, Nat.reduceSub, Int.reduceToNat, Nat.reduceLeDiff, Int.reduceNeg, Int.reduceEq, Int.reduceLT, Int.reduceLE, Int.reduceBEq, Int.reduceBNe, Int.reduceToNat]; exact rfl) (by rfl) (by rfl) (by rfl))
    rintro ⟨k, now, q, c⟩ hs R hR
    simp only at hR ⊢
    obtain ⟨h1, h2, h3, h4, h5, h6⟩ := hs
    simp only at h1 h2 h3 h4 h5 h6
    rcases Nat.lt_or_ge k l.length with h | h
    · have hao := hok l[k] (List.getElem_mem h)
      obtain ⟨o1, o2, o3⟩ := hao
      have hmem := l[k]
      by_cases ca : 1099511627776 < l[k].after
      · rcases h6 with ⟨rfl, rfl⟩ | rfl
        · (simp (disch := first | decide | omega | (intros; exact Eq.trans rfl rfl) | (simp only [puri]; done)) only [a3_0, Act.len, Act.tkL, Act.lenL, Act.tk, Act.fd0, Act.fd1, Act.fd2, Act.at0, Act.at1, Act.at2, vis, visL, visB, fillR, rowsAt, toDs, toD, ↓ops_cons, ↓ops_consz, fzTs, fzLs, rg, rd, o, oz, kc, kb, ks, kx, on, og, od, ogd, A.run, evI, evOpt, evs, evP, argF, V.cs, binD, fzV, fzL, fzVs, dataVs, dataLs, V.data, L.data, unD, fillL, List.take_succ_cons, List.take_zero, List.drop_succ_cons, List.drop_zero, List.cons_append, ne_eq, Nat.reduceLT, Nat.reduceBEq, ↓reduceIte, Nat.reduceEqDiff, Nat.reduceAdd, Nat.reduceMul, Nat.reduceSub, Int.reduceToNat, Nat.reduceLeDiff, Int.reduceNeg, Int.reduceEq, Int.reduceLT, Int.reduceLE, Int.reduceBEq, Int.reduceBNe, Int.reduceToNat, dis, vdr, A.kind, A.xs, optX])
          exact hR ⟨k + 1, now, [], .ns⟩ (by simp only; omega) ⟨by simp only; omega, by simp only; omega, by simp only [List.length_nil]; omega, h4, h5, .inl ⟨rfl, rfl⟩⟩ _ _ (at_headM (by decide) (by simp only [List.map_cons, List.map_nil, vis, visL, visB, fillR, rowsAt, toDs, toD, ↓ops_cons, ↓ops_consz, fzTs, fzLs, rg, rd, o, oz, kc, kb, ks, kx, on, og, od, ogd, A.run, evI, evOpt, evs, evP, argF, V.cs, binD, fzV, fzL, fzVs, dataVs, dataLs, V.data, L.data, unD, fillL, List.take_succ_cons, List.take_zero, List.drop_succ_cons, List.drop_zero, List.cons_append, ne_eq, Nat.reduceLT, Nat.reduceBEq, ↓reduceIte, Nat.reduceEqDiff, Nat.reduceAdd, Nat.reduceMul, Nat.reduceSub, Int.reduceToNat, Nat.reduceLeDiff, Int.reduceNeg, Int.reduceEq, Int.reduceLT, Int.reduceLE, Int.reduceBEq, Int.reduceBNe, Int.reduceToNat]; exact rfl) (by rfl) (by rfl) (by rfl))
        · (simp (disch := first | decide | omega | (intros; exact Eq.trans rfl rfl) | (simp only [puri]; done)) only [a3_0, Act.len, Act.tkL, Act.lenL, Act.tk, Act.fd0, Act.fd1, Act.fd2, Act.at0, Act.at1, Act.at2, vis, visL, visB, fillR, rowsAt, toDs, toD, ↓ops_cons, ↓ops_consz, fzTs, fzLs, rg, rd, o, oz, kc, kb, ks, kx, on, og, od, ogd, A.run, evI, evOpt, evs, evP, argF, V.cs, binD, fzV, fzL, fzVs, dataVs, dataLs, V.data, L.data, unD, fillL, List.take_succ_cons, List.take_zero, List.drop_succ_cons, List.drop_zero, List.cons_append, ne_eq, Nat.reduceLT, Nat.reduceBEq, ↓reduceIte, Nat.reduceEqDiff, Nat.reduceAdd, Nat.reduceMul, Nat.reduceSub, Int.reduceToNat, Nat.reduceLeDiff, Int.reduceNeg, Int.reduceEq, Int.reduceLT, Int.reduceLE, Int.reduceBEq, Int.reduceBNe, Int.reduceToNat, dis, vdr, A.kind, A.xs, optX])
          exact hR ⟨k + 1, now, q, .d (.l (q.map Alarm.enc))⟩ (by simp only; omega) ⟨by simp only; omega, by simp only; omega, by simp only; omega, h4, h5, .inr rfl⟩ _ _ (at_headM (by decide) (by simp only [List.map_cons, List.map_nil, vis, visL, visB, fillR, rowsAt, toDs, toD, ↓ops_cons, ↓ops_consz, fzTs, fzLs, rg, rd, o, oz, kc, kb, ks, kx, on, og, od, ogd, A.run, evI, evOpt, evs, evP, argF, V.cs, binD, fzV, fzL, fzVs, dataVs, dataLs, V.data, L.data, unD, fillL, List.take_succ_cons, List.take_zero, List.drop_succ_cons, List.drop_zero, List.cons_append, ne_eq, Nat.reduceLT, Nat.reduceBEq, ↓reduceIte, Nat.reduceEqDiff, Nat.reduceAdd, Nat.reduceMul, Nat.reduceSub, Int.reduceToNat, Nat.reduceLeDiff, Int.reduceNeg, Int.reduceEq, Int.reduceLT, Int.reduceLE, Int.reduceBEq, Int.reduceBNe, Int.reduceToNat]; exact rfl) (by rfl) (by rfl) (by rfl))
      · rcases h6 with ⟨rfl, rfl⟩ | rfl
        · have eC := erase_cut l[k].id [] h5
          have hn0 : (0:Int) ≤ now ∧ now < 1000000 := by omega
          have hql : ([] : List Alarm).length ≤ 1000000 := by decide
          have sw := sameW_spec now now [] [] (by omega) (by omega)
          rw [decide_eq_true ⟨rfl, rfl⟩] at sw
          by_cases k0 : l[k].kind = 0
          · have p1 := arm_spec now l[k].id l[k].after [] hn0 (by omega) hql (by rw [eC]; exact cut_srt h4) (by rw [eC]; exact cut_ids)
            rw [eC] at p1
            have p2 := refArm_spec now l[k].id l[k].after [] hn0 (by omega) hql
            obtain ⟨Q, hQ⟩ : ∃ Q, insF ⟨l[k].id, now + (if 1 > l[k].after then 1 else l[k].after)⟩ (cutF l[k].id []) = Q := ⟨_, rfl⟩
            have hQl : Q.length ≤ k + 1 := by rw [← hQ, ins_len]; have := cut_len (id := l[k].id) (q := []); omega
            have hQs : Srt Q := by rw [← hQ]; exact ins_srt (cut_srt h4) cut_ids
            have hQu : Uniq Q := by rw [← hQ]; exact ins_uniq (cut_uniq h5) cut_ids
            rw [hQ] at p1 p2
            clear hQ eC
            have sx := sameW_spec now now Q Q (by omega) (by omega)
            rw [decide_eq_true ⟨rfl, rfl⟩] at sx
            have g1 := armed_spec now l[k].id Q (by omega)
            have g2 := refArmed_spec now l[k].id Q (by omega)
            simp only [wh, List.map_nil] at p1 p2 sw sx g1 g2
            (simp (disch := first | decide | omega | (intros; exact Eq.trans rfl rfl) | (simp only [puri]; done)) only [a3_0, Act.len, Act.tkL, Act.lenL, Act.tk, Act.fd0, Act.fd1, Act.fd2, Act.at0, Act.at1, Act.at2, k0, p1, p2, sw, sx, g1, g2, vis, visL, visB, fillR, rowsAt, toDs, toD, ↓ops_cons, ↓ops_consz, fzTs, fzLs, rg, rd, o, oz, kc, kb, ks, kx, on, og, od, ogd, A.run, evI, evOpt, evs, evP, argF, V.cs, binD, fzV, fzL, fzVs, dataVs, dataLs, V.data, L.data, unD, fillL, List.take_succ_cons, List.take_zero, List.drop_succ_cons, List.drop_zero, List.cons_append, ne_eq, Nat.reduceLT, Nat.reduceBEq, ↓reduceIte, Nat.reduceEqDiff, Nat.reduceAdd, Nat.reduceMul, Nat.reduceSub, Int.reduceToNat, Nat.reduceLeDiff, Int.reduceNeg, Int.reduceEq, Int.reduceLT, Int.reduceLE, Int.reduceBEq, Int.reduceBNe, Int.reduceToNat, dis, vdr, A.kind, A.xs, optX])
            exact hR ⟨k + 1, now, Q, .d (.l (Q.map Alarm.enc))⟩ (by simp only; omega) ⟨by simp only; omega, by simp only; omega, hQl, hQs, hQu, .inr rfl⟩ _ _ (at_headM (by decide) (by simp only [List.map_cons, List.map_nil, vis, visL, visB, fillR, rowsAt, toDs, toD, ↓ops_cons, ↓ops_consz, fzTs, fzLs, rg, rd, o, oz, kc, kb, ks, kx, on, og, od, ogd, A.run, evI, evOpt, evs, evP, argF, V.cs, binD, fzV, fzL, fzVs, dataVs, dataLs, V.data, L.data, unD, fillL, List.take_succ_cons, List.take_zero, List.drop_succ_cons, List.drop_zero, List.cons_append, ne_eq, Nat.reduceLT, Nat.reduceBEq, ↓reduceIte, Nat.reduceEqDiff, Nat.reduceAdd, Nat.reduceMul, Nat.reduceSub, Int.reduceToNat, Nat.reduceLeDiff, Int.reduceNeg, Int.reduceEq, Int.reduceLT, Int.reduceLE, Int.reduceBEq, Int.reduceBNe, Int.reduceToNat]; exact rfl) (by rfl) (by rfl) (by rfl))
          · by_cases k1 : l[k].kind = 1
            · have p1 := cancel_spec now l[k].id [] hql
              rw [eC] at p1
              have p2 := refCancel_spec now l[k].id [] hql
              obtain ⟨Q, hQ⟩ : ∃ Q, cutF l[k].id [] = Q := ⟨_, rfl⟩
              have hQl : Q.length ≤ k + 1 := by rw [← hQ]; have := cut_len (id := l[k].id) (q := []); omega
              have hQs : Srt Q := by rw [← hQ]; exact cut_srt h4
              have hQu : Uniq Q := by rw [← hQ]; exact cut_uniq h5
              rw [hQ] at p1 p2
              clear hQ eC
              have sx := sameW_spec now now Q Q (by omega) (by omega)
              rw [decide_eq_true ⟨rfl, rfl⟩] at sx
              have g1 := armed_spec now l[k].id Q (by omega)
              have g2 := refArmed_spec now l[k].id Q (by omega)
              simp only [wh, List.map_nil] at p1 p2 sw sx g1 g2
              (simp (disch := first | decide | omega | (intros; exact Eq.trans rfl rfl) | (simp only [puri]; done)) only [a3_0, Act.len, Act.tkL, Act.lenL, Act.tk, Act.fd0, Act.fd1, Act.fd2, Act.at0, Act.at1, Act.at2, k0, k1, p1, p2, sw, sx, g1, g2, vis, visL, visB, fillR, rowsAt, toDs, toD, ↓ops_cons, ↓ops_consz, fzTs, fzLs, rg, rd, o, oz, kc, kb, ks, kx, on, og, od, ogd, A.run, evI, evOpt, evs, evP, argF, V.cs, binD, fzV, fzL, fzVs, dataVs, dataLs, V.data, L.data, unD, fillL, List.take_succ_cons, List.take_zero, List.drop_succ_cons, List.drop_zero, List.cons_append, ne_eq, Nat.reduceLT, Nat.reduceBEq, ↓reduceIte, Nat.reduceEqDiff, Nat.reduceAdd, Nat.reduceMul, Nat.reduceSub, Int.reduceToNat, Nat.reduceLeDiff, Int.reduceNeg, Int.reduceEq, Int.reduceLT, Int.reduceLE, Int.reduceBEq, Int.reduceBNe, Int.reduceToNat, dis, vdr, A.kind, A.xs, optX])
              exact hR ⟨k + 1, now, Q, .d (.l (Q.map Alarm.enc))⟩ (by simp only; omega) ⟨by simp only; omega, by simp only; omega, hQl, hQs, hQu, .inr rfl⟩ _ _ (at_headM (by decide) (by simp only [List.map_cons, List.map_nil, vis, visL, visB, fillR, rowsAt, toDs, toD, ↓ops_cons, ↓ops_consz, fzTs, fzLs, rg, rd, o, oz, kc, kb, ks, kx, on, og, od, ogd, A.run, evI, evOpt, evs, evP, argF, V.cs, binD, fzV, fzL, fzVs, dataVs, dataLs, V.data, L.data, unD, fillL, List.take_succ_cons, List.take_zero, List.drop_succ_cons, List.drop_zero, List.cons_append, ne_eq, Nat.reduceLT, Nat.reduceBEq, ↓reduceIte, Nat.reduceEqDiff, Nat.reduceAdd, Nat.reduceMul, Nat.reduceSub, Int.reduceToNat, Nat.reduceLeDiff, Int.reduceNeg, Int.reduceEq, Int.reduceLT, Int.reduceLE, Int.reduceBEq, Int.reduceBNe, Int.reduceToNat]; exact rfl) (by rfl) (by rfl) (by rfl))
            · have p1 := tick_spec now [] hn0 hql
              have p2 := refTick_spec now [] hn0 hql
              obtain ⟨ts1, ts2⟩ := tick_split (now + 1) [] h4
              rw [ts1, ts2] at p1
              obtain ⟨Q, hQ⟩ : ∃ Q, (List.filter (fun a => !due (now + 1) a) []) = Q := ⟨_, rfl⟩
              obtain ⟨B, hB⟩ : ∃ B, (List.filter (due (now + 1)) []) = B := ⟨_, rfl⟩
              have hQl : Q.length ≤ k + 1 := by rw [← hQ]; have := List.length_filter_le (fun a => !due (now + 1) a) []; omega
              have hBl : B.length ≤ k + 1 := by rw [← hB]; have := List.length_filter_le (due (now + 1)) []; omega
              have hQs : Srt Q := by rw [← hQ]; exact filter_srt h4
              have hQu : Uniq Q := by rw [← hQ]; exact filter_uniq h5
              rw [hQ, hB] at p1 p2
              clear hQ hB eC ts1 ts2
              have s0 := same18_spec (B.map Alarm.id) (B.map Alarm.id) (by simp; omega) (by simp; omega)
              rw [List.map_map, decide_eq_true rfl] at s0
              have s0' : call 13 [vl (B.map encI), vl (B.map encI)] [] = some (vb true, []) := s0
              have sx := sameW_spec (now + 1) (now + 1) Q Q (by omega) (by omega)
              rw [decide_eq_true ⟨rfl, rfl⟩] at sx
              have g1 := armed_spec (now + 1) l[k].id Q (by omega)
              have g2 := refArmed_spec (now + 1) l[k].id Q (by omega)
              simp only [wh, List.map_nil] at p1 p2 sw sx g1 g2
              (simp (disch := first | decide | omega | (intros; exact Eq.trans rfl rfl) | (simp only [puri]; done)) only [a3_0, Act.len, Act.tkL, Act.lenL, Act.tk, Act.fd0, Act.fd1, Act.fd2, Act.at0, Act.at1, Act.at2, k0, k1, p1, p2, sw, sx, g1, g2, s0', vis, visL, visB, fillR, rowsAt, toDs, toD, ↓ops_cons, ↓ops_consz, fzTs, fzLs, rg, rd, o, oz, kc, kb, ks, kx, on, og, od, ogd, A.run, evI, evOpt, evs, evP, argF, V.cs, binD, fzV, fzL, fzVs, dataVs, dataLs, V.data, L.data, unD, fillL, List.take_succ_cons, List.take_zero, List.drop_succ_cons, List.drop_zero, List.cons_append, ne_eq, Nat.reduceLT, Nat.reduceBEq, ↓reduceIte, Nat.reduceEqDiff, Nat.reduceAdd, Nat.reduceMul, Nat.reduceSub, Int.reduceToNat, Nat.reduceLeDiff, Int.reduceNeg, Int.reduceEq, Int.reduceLT, Int.reduceLE, Int.reduceBEq, Int.reduceBNe, Int.reduceToNat, dis, vdr, A.kind, A.xs, optX])
              exact hR ⟨k + 1, now + 1, Q, .d (.l (Q.map Alarm.enc))⟩ (by simp only; omega) ⟨by simp only; omega, by simp only; omega, hQl, hQs, hQu, .inr rfl⟩ _ _ (at_headM (by decide) (by simp only [List.map_cons, List.map_nil, vis, visL, visB, fillR, rowsAt, toDs, toD, ↓ops_cons, ↓ops_consz, fzTs, fzLs, rg, rd, o, oz, kc, kb, ks, kx, on, og, od, ogd, A.run, evI, evOpt, evs, evP, argF, V.cs, binD, fzV, fzL, fzVs, dataVs, dataLs, V.data, L.data, unD, fillL, List.take_succ_cons, List.take_zero, List.drop_succ_cons, List.drop_zero, List.cons_append, ne_eq, Nat.reduceLT, Nat.reduceBEq, ↓reduceIte, Nat.reduceEqDiff, Nat.reduceAdd, Nat.reduceMul, Nat.reduceSub, Int.reduceToNat, Nat.reduceLeDiff, Int.reduceNeg, Int.reduceEq, Int.reduceLT, Int.reduceLE, Int.reduceBEq, Int.reduceBNe, Int.reduceToNat]; exact rfl) (by rfl) (by rfl) (by rfl))
        · have eC := erase_cut l[k].id q h5
          have hn0 : (0:Int) ≤ now ∧ now < 1000000 := by omega
          have hql : (q : List Alarm).length ≤ 1000000 := by omega
          have sw := sameW_spec now now q q (by omega) (by omega)
          rw [decide_eq_true ⟨rfl, rfl⟩] at sw
          by_cases k0 : l[k].kind = 0
          · have p1 := arm_spec now l[k].id l[k].after q hn0 (by omega) hql (by rw [eC]; exact cut_srt h4) (by rw [eC]; exact cut_ids)
            rw [eC] at p1
            have p2 := refArm_spec now l[k].id l[k].after q hn0 (by omega) hql
            obtain ⟨Q, hQ⟩ : ∃ Q, insF ⟨l[k].id, now + (if 1 > l[k].after then 1 else l[k].after)⟩ (cutF l[k].id q) = Q := ⟨_, rfl⟩
            have hQl : Q.length ≤ k + 1 := by rw [← hQ, ins_len]; have := cut_len (id := l[k].id) (q := q); omega
            have hQs : Srt Q := by rw [← hQ]; exact ins_srt (cut_srt h4) cut_ids
            have hQu : Uniq Q := by rw [← hQ]; exact ins_uniq (cut_uniq h5) cut_ids
            rw [hQ] at p1 p2
            clear hQ eC
            have sx := sameW_spec now now Q Q (by omega) (by omega)
            rw [decide_eq_true ⟨rfl, rfl⟩] at sx
            have g1 := armed_spec now l[k].id Q (by omega)
            have g2 := refArmed_spec now l[k].id Q (by omega)
            (simp (disch := first | decide | omega | (intros; exact Eq.trans rfl rfl) | (simp only [puri]; done)) only [a3_0, Act.len, Act.tkL, Act.lenL, Act.tk, Act.fd0, Act.fd1, Act.fd2, Act.at0, Act.at1, Act.at2, k0, p1, p2, sw, sx, g1, g2, vis, visL, visB, fillR, rowsAt, toDs, toD, ↓ops_cons, ↓ops_consz, fzTs, fzLs, rg, rd, o, oz, kc, kb, ks, kx, on, og, od, ogd, A.run, evI, evOpt, evs, evP, argF, V.cs, binD, fzV, fzL, fzVs, dataVs, dataLs, V.data, L.data, unD, fillL, List.take_succ_cons, List.take_zero, List.drop_succ_cons, List.drop_zero, List.cons_append, ne_eq, Nat.reduceLT, Nat.reduceBEq, ↓reduceIte, Nat.reduceEqDiff, Nat.reduceAdd, Nat.reduceMul, Nat.reduceSub, Int.reduceToNat, Nat.reduceLeDiff, Int.reduceNeg, Int.reduceEq, Int.reduceLT, Int.reduceLE, Int.reduceBEq, Int.reduceBNe, Int.reduceToNat, dis, vdr, A.kind, A.xs, optX])
            exact hR ⟨k + 1, now, Q, .d (.l (Q.map Alarm.enc))⟩ (by simp only; omega) ⟨by simp only; omega, by simp only; omega, hQl, hQs, hQu, .inr rfl⟩ _ _ (at_headM (by decide) (by simp only [List.map_cons, List.map_nil, vis, visL, visB, fillR, rowsAt, toDs, toD, ↓ops_cons, ↓ops_consz, fzTs, fzLs, rg, rd, o, oz, kc, kb, ks, kx, on, og, od, ogd, A.run, evI, evOpt, evs, evP, argF, V.cs, binD, fzV, fzL, fzVs, dataVs, dataLs, V.data, L.data, unD, fillL, List.take_succ_cons, List.take_zero, List.drop_succ_cons, List.drop_zero, List.cons_append, ne_eq, Nat.reduceLT, Nat.reduceBEq, ↓reduceIte, Nat.reduceEqDiff, Nat.reduceAdd, Nat.reduceMul, Nat.reduceSub, Int.reduceToNat, Nat.reduceLeDiff, Int.reduceNeg, Int.reduceEq, Int.reduceLT, Int.reduceLE, Int.reduceBEq, Int.reduceBNe, Int.reduceToNat]; exact rfl) (by rfl) (by rfl) (by rfl))
          · by_cases k1 : l[k].kind = 1
            · have p1 := cancel_spec now l[k].id q hql
              rw [eC] at p1
              have p2 := refCancel_spec now l[k].id q hql
              obtain ⟨Q, hQ⟩ : ∃ Q, cutF l[k].id q = Q := ⟨_, rfl⟩
              have hQl : Q.length ≤ k + 1 := by rw [← hQ]; have := cut_len (id := l[k].id) (q := q); omega
              have hQs : Srt Q := by rw [← hQ]; exact cut_srt h4
              have hQu : Uniq Q := by rw [← hQ]; exact cut_uniq h5
              rw [hQ] at p1 p2
              clear hQ eC
              have sx := sameW_spec now now Q Q (by omega) (by omega)
              rw [decide_eq_true ⟨rfl, rfl⟩] at sx
              have g1 := armed_spec now l[k].id Q (by omega)
              have g2 := refArmed_spec now l[k].id Q (by omega)
              (simp (disch := first | decide | omega | (intros; exact Eq.trans rfl rfl) | (simp only [puri]; done)) only [a3_0, Act.len, Act.tkL, Act.lenL, Act.tk, Act.fd0, Act.fd1, Act.fd2, Act.at0, Act.at1, Act.at2, k0, k1, p1, p2, sw, sx, g1, g2, vis, visL, visB, fillR, rowsAt, toDs, toD, ↓ops_cons, ↓ops_consz, fzTs, fzLs, rg, rd, o, oz, kc, kb, ks, kx, on, og, od, ogd, A.run, evI, evOpt, evs, evP, argF, V.cs, binD, fzV, fzL, fzVs, dataVs, dataLs, V.data, L.data, unD, fillL, List.take_succ_cons, List.take_zero, List.drop_succ_cons, List.drop_zero, List.cons_append, ne_eq, Nat.reduceLT, Nat.reduceBEq, ↓reduceIte, Nat.reduceEqDiff, Nat.reduceAdd, Nat.reduceMul, Nat.reduceSub, Int.reduceToNat, Nat.reduceLeDiff, Int.reduceNeg, Int.reduceEq, Int.reduceLT, Int.reduceLE, Int.reduceBEq, Int.reduceBNe, Int.reduceToNat, dis, vdr, A.kind, A.xs, optX])
              exact hR ⟨k + 1, now, Q, .d (.l (Q.map Alarm.enc))⟩ (by simp only; omega) ⟨by simp only; omega, by simp only; omega, hQl, hQs, hQu, .inr rfl⟩ _ _ (at_headM (by decide) (by simp only [List.map_cons, List.map_nil, vis, visL, visB, fillR, rowsAt, toDs, toD, ↓ops_cons, ↓ops_consz, fzTs, fzLs, rg, rd, o, oz, kc, kb, ks, kx, on, og, od, ogd, A.run, evI, evOpt, evs, evP, argF, V.cs, binD, fzV, fzL, fzVs, dataVs, dataLs, V.data, L.data, unD, fillL, List.take_succ_cons, List.take_zero, List.drop_succ_cons, List.drop_zero, List.cons_append, ne_eq, Nat.reduceLT, Nat.reduceBEq, ↓reduceIte, Nat.reduceEqDiff, Nat.reduceAdd, Nat.reduceMul, Nat.reduceSub, Int.reduceToNat, Nat.reduceLeDiff, Int.reduceNeg, Int.reduceEq, Int.reduceLT, Int.reduceLE, Int.reduceBEq, Int.reduceBNe, Int.reduceToNat]; exact rfl) (by rfl) (by rfl) (by rfl))
            · have p1 := tick_spec now q hn0 hql
              have p2 := refTick_spec now q hn0 hql
              obtain ⟨ts1, ts2⟩ := tick_split (now + 1) q h4
              rw [ts1, ts2] at p1
              obtain ⟨Q, hQ⟩ : ∃ Q, (List.filter (fun a => !due (now + 1) a) q) = Q := ⟨_, rfl⟩
              obtain ⟨B, hB⟩ : ∃ B, (List.filter (due (now + 1)) q) = B := ⟨_, rfl⟩
              have hQl : Q.length ≤ k + 1 := by rw [← hQ]; have := List.length_filter_le (fun a => !due (now + 1) a) q; omega
              have hBl : B.length ≤ k + 1 := by rw [← hB]; have := List.length_filter_le (due (now + 1)) q; omega
              have hQs : Srt Q := by rw [← hQ]; exact filter_srt h4
              have hQu : Uniq Q := by rw [← hQ]; exact filter_uniq h5
              rw [hQ, hB] at p1 p2
              clear hQ hB eC ts1 ts2
              have s0 := same18_spec (B.map Alarm.id) (B.map Alarm.id) (by simp; omega) (by simp; omega)
              rw [List.map_map, decide_eq_true rfl] at s0
              have s0' : call 13 [vl (B.map encI), vl (B.map encI)] [] = some (vb true, []) := s0
              have sx := sameW_spec (now + 1) (now + 1) Q Q (by omega) (by omega)
              rw [decide_eq_true ⟨rfl, rfl⟩] at sx
              have g1 := armed_spec (now + 1) l[k].id Q (by omega)
              have g2 := refArmed_spec (now + 1) l[k].id Q (by omega)
              (simp (disch := first | decide | omega | (intros; exact Eq.trans rfl rfl) | (simp only [puri]; done)) only [a3_0, Act.len, Act.tkL, Act.lenL, Act.tk, Act.fd0, Act.fd1, Act.fd2, Act.at0, Act.at1, Act.at2, k0, k1, p1, p2, sw, sx, g1, g2, s0', vis, visL, visB, fillR, rowsAt, toDs, toD, ↓ops_cons, ↓ops_consz, fzTs, fzLs, rg, rd, o, oz, kc, kb, ks, kx, on, og, od, ogd, A.run, evI, evOpt, evs, evP, argF, V.cs, binD, fzV, fzL, fzVs, dataVs, dataLs, V.data, L.data, unD, fillL, List.take_succ_cons, List.take_zero, List.drop_succ_cons, List.drop_zero, List.cons_append, ne_eq, Nat.reduceLT, Nat.reduceBEq, ↓reduceIte, Nat.reduceEqDiff, Nat.reduceAdd, Nat.reduceMul, Nat.reduceSub, Int.reduceToNat, Nat.reduceLeDiff, Int.reduceNeg, Int.reduceEq, Int.reduceLT, Int.reduceLE, Int.reduceBEq, Int.reduceBNe, Int.reduceToNat, dis, vdr, A.kind, A.xs, optX])
              exact hR ⟨k + 1, now + 1, Q, .d (.l (Q.map Alarm.enc))⟩ (by simp only; omega) ⟨by simp only; omega, by simp only; omega, hQl, hQs, hQu, .inr rfl⟩ _ _ (at_headM (by decide) (by simp only [List.map_cons, List.map_nil, vis, visL, visB, fillR, rowsAt, toDs, toD, ↓ops_cons, ↓ops_consz, fzTs, fzLs, rg, rd, o, oz, kc, kb, ks, kx, on, og, od, ogd, A.run, evI, evOpt, evs, evP, argF, V.cs, binD, fzV, fzL, fzVs, dataVs, dataLs, V.data, L.data, unD, fillL, List.take_succ_cons, List.take_zero, List.drop_succ_cons, List.drop_zero, List.cons_append, ne_eq, Nat.reduceLT, Nat.reduceBEq, ↓reduceIte, Nat.reduceEqDiff, Nat.reduceAdd, Nat.reduceMul, Nat.reduceSub, Int.reduceToNat, Nat.reduceLeDiff, Int.reduceNeg, Int.reduceEq, Int.reduceLT, Int.reduceLE, Int.reduceBEq, Int.reduceBNe, Int.reduceToNat]; exact rfl) (by rfl) (by rfl) (by rfl))
    · rcases h6 with ⟨rfl, rfl⟩ | rfl
      · (simp (disch := first | decide | omega | (intros; exact Eq.trans rfl rfl) | (simp only [puri]; done)) only [a3_0, awake_spec, vis, visL, visB, fillR, rowsAt, toDs, toD, ↓ops_cons, ↓ops_consz, fzTs, fzLs, rg, rd, o, oz, kc, kb, ks, kx, on, og, od, ogd, A.run, evI, evOpt, evs, evP, argF, V.cs, binD, fzV, fzL, fzVs, dataVs, dataLs, V.data, L.data, unD, fillL, List.take_succ_cons, List.take_zero, List.drop_succ_cons, List.drop_zero, List.cons_append, ne_eq, Nat.reduceLT, Nat.reduceBEq, ↓reduceIte, Nat.reduceEqDiff, Nat.reduceAdd, Nat.reduceMul, Nat.reduceSub, Int.reduceToNat, Nat.reduceLeDiff, Int.reduceNeg, Int.reduceEq, Int.reduceLT, Int.reduceLE, Int.reduceBEq, Int.reduceBNe, Int.reduceToNat, dis, vdr, A.kind, A.xs, optX])
      · (simp (disch := first | decide | omega | (intros; exact Eq.trans rfl rfl) | (simp only [puri]; done)) only [a3_0, awake_spec, vis, visL, visB, fillR, rowsAt, toDs, toD, ↓ops_cons, ↓ops_consz, fzTs, fzLs, rg, rd, o, oz, kc, kb, ks, kx, on, og, od, ogd, A.run, evI, evOpt, evs, evP, argF, V.cs, binD, fzV, fzL, fzVs, dataVs, dataLs, V.data, L.data, unD, fillL, List.take_succ_cons, List.take_zero, List.drop_succ_cons, List.drop_zero, List.cons_append, ne_eq, Nat.reduceLT, Nat.reduceBEq, ↓reduceIte, Nat.reduceEqDiff, Nat.reduceAdd, Nat.reduceMul, Nat.reduceSub, Int.reduceToNat, Nat.reduceLeDiff, Int.reduceNeg, Int.reduceEq, Int.reduceLT, Int.reduceLE, Int.reduceBEq, Int.reduceBNe, Int.reduceToNat, dis, vdr, A.kind, A.xs, optX])
  · (simp (disch := first | decide | omega | (intros; exact Eq.trans rfl rfl) | (simp only [puri]; done)) only [a3, awake_spec, vis, visL, visB, fillR, rowsAt, toDs, toD, ↓ops_cons, ↓ops_consz, fzTs, fzLs, rg, rd, o, oz, kc, kb, ks, kx, on, og, od, ogd, A.run, evI, evOpt, evs, evP, argF, V.cs, binD, fzV, fzL, fzVs, dataVs, dataLs, V.data, L.data, unD, fillL, List.take_succ_cons, List.take_zero, List.drop_succ_cons, List.drop_zero, List.cons_append, ne_eq, Nat.reduceLT, Nat.reduceBEq, ↓reduceIte, Nat.reduceEqDiff, Nat.reduceAdd, Nat.reduceMul, Nat.reduceSub, Int.reduceToNat, Nat.reduceLeDiff, Int.reduceNeg, Int.reduceEq, Int.reduceLT, Int.reduceLE, Int.reduceBEq, Int.reduceBNe, Int.reduceToNat, dis])
theorem plays_pure (xs : List V) (h : wfAs [(false, [.l [.i .i64, .i .i64, .i .i64]])] xs) : call 3 xs [] = some (vb true, []) := by
  simp only [wfAs, wfA] at h
  obtain ⟨_, _, rfl, ⟨d, rfl, hd⟩, rfl⟩ := h
  simp only [wfRow, wfT] at hd
  obtain ⟨_, _, e1, ⟨rows, rfl, hl, hr⟩, rfl⟩ := hd
  cases e1
  obtain ⟨acts, rfl, ha⟩ := rows_map Act.of rows hr
  exact plays_spec acts (by simpa using hl) ha
end Go.Proofs.Ytoehimghaanjfaa
