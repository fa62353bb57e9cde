import Derived.Test.YtoehimghaanjfaaK10
set_option linter.unusedSimpArgs false
set_option linter.unusedVariables false
namespace Go.Proofs.Ytoehimghaanjfaa
open Go.Vi
set_option linter.unusedSimpArgs false

abbrev enc8 (x : Nat) : List D := [.i .u8 ((x : Nat) : Int)]
def dv (x : Nat) : Int := if 1 > ((x % 16 : Nat) : Int) then 1 else ((x % 16 : Nat) : Int)
theorem dv_in (x : Nat) : 1 ≤ dv x ∧ dv x ≤ 15 := by unfold dv; split <;> omega
/-- alarms of the Ids from lo on, each at its time -/
structure Ok20 (l : List Nat) (lo : Nat) (q : List Alarm) : Prop where
  srt : Srt q
  uni : Uniq q
  at_ : ∀ a ∈ q, ∃ (i : Nat) (h : i < l.length), lo ≤ i ∧ a.id = (i : Int) ∧ a.at_ = dv l[i]

theorem ok_ins {l : List Nat} {j : Nat} {q : List Alarm} (h : Ok20 l (j + 1) q) (hj : j < l.length) : cutF (j : Int) q = q ∧ Ok20 l j (insF ⟨j, dv l[j]⟩ q) ∧ (∀ a ∈ q, a.id ≠ (j : Int)) := by
  have hne : ∀ a ∈ q, a.id ≠ (j : Int) := by
    intro a ha
    obtain ⟨i, hi, h1, h2, _⟩ := h.at_ a ha
    omega
  refine ⟨?_, ⟨ins_srt h.srt hne, ins_uniq h.uni hne, fun a ha => ?_⟩, hne⟩
  · simp only [cutF]
    rw [List.filter_eq_self]
    intro a ha
    simpa [isId] using hne a ha
  · rw [ins_mem] at ha
    rcases ha with rfl | ha
    · exact ⟨j, hj, Nat.le_refl _, rfl, rfl⟩
    · obtain ⟨i, hi, h1, h2⟩ := h.at_ a ha
      exact ⟨i, hi, by omega, h2⟩

theorem len_split (p : Alarm → Bool) (q : List Alarm) : (q.filter fun a => !p a).length + (q.filter p).length = q.length := by
  induction q with
  | nil => rfl
  | cons a r ih =>
    simp only [List.filter_cons]
    cases p a <;> simp <;> omega
/-- what a tick tells -/
theorem ok_due {l : List Nat} {q : List Alarm} {k : Nat} (h : Ok20 l 0 q) (hk : ∀ a ∈ q, (k : Int) ≤ a.at_) :
    Ok20 l 0 (q.filter fun a => !due k a) ∧ (∀ a ∈ q.filter fun a => !due k a, ((k + 1 : Nat) : Int) ≤ a.at_) ∧ Srt (q.filter (due k)) ∧ (∀ a ∈ q.filter (due k), a.at_ = k ∧ ∃ (i : Nat) (h : i < l.length), a.id = (i : Int) ∧ dv l[i] = k) ∧
      ∀ (i j : Nat) (hi : i < (q.filter (due k)).length) (hj : j < (q.filter (due k)).length), i < j → (q.filter (due k))[i].id < (q.filter (due k))[j].id := by
  have hd : ∀ a ∈ q.filter (due k), a.at_ = k ∧ ∃ (i : Nat) (h : i < l.length), a.id = (i : Int) ∧ dv l[i] = k := by
    intro a ha
    rw [List.mem_filter] at ha
    have h1 := hk a ha.1
    have h2 := ha.2
    simp only [due, decide_eq_true_eq] at h2
    obtain ⟨i, hi, _, h3, h4⟩ := h.at_ a ha.1
    exact ⟨by omega, i, hi, h3, by omega⟩
  have hs : Srt (q.filter (due k)) := filter_srt h.srt
  refine ⟨⟨filter_srt h.srt, filter_uniq h.uni, fun a ha => h.at_ a (List.mem_filter.1 ha).1⟩, fun a ha => ?_, hs, hd, fun i j hi hj hij => ?_⟩
  · have h2 := (List.mem_filter.1 ha).2
    simp only [due, Bool.not_eq_true', decide_eq_false_iff_not] at h2
    omega
  · have h3 := List.pairwise_iff_getElem.1 hs i j hi hj hij
    rw [ltA_iff] at h3
    have h4 := (hd _ (List.getElem_mem hi)).1
    have h5 := (hd _ (List.getElem_mem hj)).1
    omega

set_option maxHeartbeats 4000000 in
set_option maxRecDepth 8000 in
theorem order_spec (l : List Nat) (hl : l.length ≤ 9223372036854775807) (hb : ∀ x ∈ l, x < 256) : call 5 [vl (l.map enc8)] [] = some (vb true, []) := by
  apply enterS s5 rfl
  by_cases c : l.length ≤ 30
  · (simp (disch := first | decide | omega | (intros; exact Eq.trans rfl rfl) | (simp only [puri]; done)) only [a5, vis, visL, visB, fillR, rowsAt, toDs, toD, ↓ops_cons, ↓ops_consz, fzTs, fzLs, rg, rd, o, oz, kc, kb, ks, kx, on, og, od, ogd, A.run, evI, evOpt, evs, evP, argF, V.cs, binD, fzV, fzL, fzVs, dataVs, dataLs, V.data, L.data, unD, fillL, List.take_succ_cons, List.take_zero, List.drop_succ_cons, List.drop_zero, List.cons_append, ne_eq, Nat.reduceLT, Nat.reduceBEq, ↓reduceIte, Nat.reduceEqDiff, Nat.reduceAdd, Nat.reduceMul, Nat.reduceSub, Int.reduceToNat, Nat.reduceLeDiff, Int.reduceNeg, Int.reduceEq, Int.reduceLT, Int.reduceLE, Int.reduceBEq, Int.reduceBNe, Int.reduceToNat, dis])
    have ji : ((l.length : Nat) : Int) - 1 = ((l.length : Nat) : Int) - 1 := rfl
    refine loop_box (σ := Nat × List Alarm × L) (fun s => s.1) (fun s => s.1 ≤ l.length ∧ Ok20 l s.1 s.2.1 ∧ s.2.1.length + s.1 = l.length ∧ ((s.2.2 = .ns ∧ s.2.1 = []) ∨ s.2.2 = .d (.l (s.2.1.map Alarm.enc)))) (fun s => [vl (l.map enc8), .one (.p 0 0), vi ((s.1 : Int) - 1)]) (fun s => ([.cells [.d (.i .i64 0), s.2.2]] : Hp)) (fun _ => (vb true, ([] : Hp))) ?_ (l.length, [], .ns) ⟨Nat.le_refl _, ⟨List.Pairwise.nil, List.Pairwise.nil, by simp⟩, by simp, .inl ⟨rfl, rfl⟩⟩ _ _ (at_headM (by decide) (by simp only [List.map_cons, List.map_nil, vis, visL, visB, fillR, rowsAt, toDs, toD, ↓ops_cons, ↓ops_consz, fzTs, fzLs, rg, rd, o, oz, kc, kb, ks, kx, on, og, od, ogd, A.run, evI, evOpt, evs, evP, argF, V.cs, binD, fzV, fzL, fzVs, dataVs, dataLs, V.data, L.data, unD, fillL, List.take_succ_cons, List.take_zero, List.drop_succ_cons, List.drop_zero, List.cons_append, ne_eq, Nat.reduceLT, Nat.reduceBEq, ↓reduceIte, Nat.reduceEqDiff, Nat.reduceAdd, Nat.reduceMul, Nat.reduceSub, Int.reduceToNat, Nat.reduceLeDiff, Int.reduceNeg, Int.reduceEq, Int.reduceLT, Int.reduceLE, Int.reduceBEq, Int.reduceBNe, Int.reduceToNat]; exact rfl) (by rfl) (by rfl) (by rfl))
    rintro ⟨j, q, cc⟩ ⟨h1, h2, h3, h4⟩ R hR
    simp only at h1 h2 h3 h4 hR ⊢
    cases j with
    | succ j =>
      have hj : j < l.length := by omega
      have hx := hb l[j] (List.getElem_mem hj)
      have em : ((l[j] : Nat) : Int).tmod 16 = ((l[j] % 16 : Nat) : Int) := by rw [Int.tmod_eq_emod_of_nonneg (by omega)]; omega
      have e1 : ((j + 1 : Nat) : Int) - 1 = (j : Int) := by omega
      obtain ⟨i1, i2, i3⟩ := ok_ins h2 hj
      have hlen : (insF ⟨j, dv l[j]⟩ q).length = q.length + 1 := ins_len
      have p1 := arm_spec 0 j ((l[j] % 16 : Nat) : Int) q (by decide) (by omega) (by omega) (by rw [erase_cut _ _ h2.uni, i1]; exact h2.srt) (by rw [erase_cut _ _ h2.uni, i1]; exact i3)
      rw [erase_cut _ _ h2.uni, i1, Int.zero_add] at p1
      have e2 : (if 1 > ((l[j] % 16 : Nat) : Int) then 1 else ((l[j] % 16 : Nat) : Int)) = dv l[j] := rfl
      rw [e2] at p1
      generalize insF ⟨j, dv l[j]⟩ q = Q at *
      rcases h4 with ⟨rfl, rfl⟩ | rfl
      · simp only [wh, List.map_nil] at p1
        (simp (disch := first | decide | omega | (intros; exact Eq.trans rfl rfl) | (simp only [puri]; done)) only [a5_0, e1, em, p1, vis, visL, visB, fillR, rowsAt, toDs, toD, ↓ops_cons, ↓ops_consz, fzTs, fzLs, rg, rd, o, oz, kc, kb, ks, kx, on, og, od, ogd, A.run, evI, evOpt, evs, evP, argF, V.cs, binD, fzV, fzL, fzVs, dataVs, dataLs, V.data, L.data, unD, fillL, List.take_succ_cons, List.take_zero, List.drop_succ_cons, List.drop_zero, List.cons_append, ne_eq, Nat.reduceLT, Nat.reduceBEq, ↓reduceIte, Nat.reduceEqDiff, Nat.reduceAdd, Nat.reduceMul, Nat.reduceSub, Int.reduceToNat, Nat.reduceLeDiff, Int.reduceNeg, Int.reduceEq, Int.reduceLT, Int.reduceLE, Int.reduceBEq, Int.reduceBNe, Int.reduceToNat, dis, vdr, A.kind, A.xs, optX])
        exact hR (j, Q, .d (.l (Q.map Alarm.enc))) (by simp only; omega) ⟨by simp only; omega, i2, by simp only; simp only [List.length_nil] at *; omega, .inr rfl⟩ _ _ (at_headM (by decide) (by simp only [List.map_cons, List.map_nil, vis, visL, visB, fillR, rowsAt, toDs, toD, ↓ops_cons, ↓ops_consz, fzTs, fzLs, rg, rd, o, oz, kc, kb, ks, kx, on, og, od, ogd, A.run, evI, evOpt, evs, evP, argF, V.cs, binD, fzV, fzL, fzVs, dataVs, dataLs, V.data, L.data, unD, fillL, List.take_succ_cons, List.take_zero, List.drop_succ_cons, List.drop_zero, List.cons_append, ne_eq, Nat.reduceLT, Nat.reduceBEq, ↓reduceIte, Nat.reduceEqDiff, Nat.reduceAdd, Nat.reduceMul, Nat.reduceSub, Int.reduceToNat, Nat.reduceLeDiff, Int.reduceNeg, Int.reduceEq, Int.reduceLT, Int.reduceLE, Int.reduceBEq, Int.reduceBNe, Int.reduceToNat]; exact rfl) (by rfl) (by rfl) (by rfl))
      · (simp (disch := first | decide | omega | (intros; exact Eq.trans rfl rfl) | (simp only [puri]; done)) only [a5_0, e1, em, p1, vis, visL, visB, fillR, rowsAt, toDs, toD, ↓ops_cons, ↓ops_consz, fzTs, fzLs, rg, rd, o, oz, kc, kb, ks, kx, on, og, od, ogd, A.run, evI, evOpt, evs, evP, argF, V.cs, binD, fzV, fzL, fzVs, dataVs, dataLs, V.data, L.data, unD, fillL, List.take_succ_cons, List.take_zero, List.drop_succ_cons, List.drop_zero, List.cons_append, ne_eq, Nat.reduceLT, Nat.reduceBEq, ↓reduceIte, Nat.reduceEqDiff, Nat.reduceAdd, Nat.reduceMul, Nat.reduceSub, Int.reduceToNat, Nat.reduceLeDiff, Int.reduceNeg, Int.reduceEq, Int.reduceLT, Int.reduceLE, Int.reduceBEq, Int.reduceBNe, Int.reduceToNat, dis, vdr, A.kind, A.xs, optX])
        exact hR (j, Q, .d (.l (Q.map Alarm.enc))) (by simp only; omega) ⟨by simp only; omega, i2, by simp only; omega, .inr rfl⟩ _ _ (at_headM (by decide) (by simp only [List.map_cons, List.map_nil, vis, visL, visB, fillR, rowsAt, toDs, toD, ↓ops_cons, ↓ops_consz, fzTs, fzLs, rg, rd, o, oz, kc, kb, ks, kx, on, og, od, ogd, A.run, evI, evOpt, evs, evP, argF, V.cs, binD, fzV, fzL, fzVs, dataVs, dataLs, V.data, L.data, unD, fillL, List.take_succ_cons, List.take_zero, List.drop_succ_cons, List.drop_zero, List.cons_append, ne_eq, Nat.reduceLT, Nat.reduceBEq, ↓reduceIte, Nat.reduceEqDiff, Nat.reduceAdd, Nat.reduceMul, Nat.reduceSub, Int.reduceToNat, Nat.reduceLeDiff, Int.reduceNeg, Int.reduceEq, Int.reduceLT, Int.reduceLE, Int.reduceBEq, Int.reduceBNe, Int.reduceToNat]; exact rfl) (by rfl) (by rfl) (by rfl))
    | zero =>
      have e1 : ((0 : Nat) : Int) - 1 = -1 := by omega
      rcases h4 with ⟨rfl, rfl⟩ | rfl
      · (simp (disch := first | decide | omega | (intros; exact Eq.trans rfl rfl) | (simp only [puri]; done)) only [a5_0, e1, vis, visL, visB, fillR, rowsAt, toDs, toD, ↓ops_cons, ↓ops_consz, fzTs, fzLs, rg, rd, o, oz, kc, kb, ks, kx, on, og, od, ogd, A.run, evI, evOpt, evs, evP, argF, V.cs, binD, fzV, fzL, fzVs, dataVs, dataLs, V.data, L.data, unD, fillL, List.take_succ_cons, List.take_zero, List.drop_succ_cons, List.drop_zero, List.cons_append, ne_eq, Nat.reduceLT, Nat.reduceBEq, ↓reduceIte, Nat.reduceEqDiff, Nat.reduceAdd, Nat.reduceMul, Nat.reduceSub, Int.reduceToNat, Nat.reduceLeDiff, Int.reduceNeg, Int.reduceEq, Int.reduceLT, Int.reduceLE, Int.reduceBEq, Int.reduceBNe, Int.reduceToNat, dis, vdr, A.kind, A.xs, optX])
        refine loop_box (σ := Nat × List Alarm × Nat × L) (fun s => 20 - s.1) (fun s => 1 ≤ s.1 ∧ s.1 ≤ 17 ∧ Ok20 l 0 s.2.1 ∧ s.2.2.1 + s.2.1.length = l.length ∧ (∀ a ∈ s.2.1, (s.1 : Int) ≤ a.at_) ∧ ((s.2.2.2 = .ns ∧ s.2.1 = []) ∨ s.2.2.2 = .d (.l (s.2.1.map Alarm.enc))) ∧ (1 < s.1 → s.2.2.2 = .d (.l (s.2.1.map Alarm.enc)))) (fun s => [vl (l.map enc8), .one (.p 0 0), vi s.2.2.1, vi s.1]) (fun s => ([.cells [.d (.i .i64 ((s.1 : Int) - 1)), s.2.2.2]] : Hp)) (fun _ => (vb true, ([] : Hp))) ?_ (1, [], 0, L.ns) ⟨Nat.le_refl _, by simp only; omega, h2, by simp only; simp only [List.length_nil] at *; omega, fun a ha => by obtain ⟨i, hi, _, _, h⟩ := h2.at_ a ha; have := dv_in l[i]; simp only; omega, .inl ⟨rfl, rfl⟩, by simp⟩ _ _ (at_headM (by decide) (by simp only [List.map_cons, List.map_nil, vis, visL, visB, fillR, rowsAt, toDs, toD, ↓ops_cons, ↓ops_consz, fzTs, fzLs, rg, rd, o, oz, kc, kb, ks, kx, on, og, od, ogd, A.run, evI, evOpt, evs, evP, argF, V.cs, binD, fzV, fzL, fzVs, dataVs, dataLs, V.data, L.data, unD, fillL, List.take_succ_cons, List.take_zero, List.drop_succ_cons, List.drop_zero, List.cons_append, ne_eq, Nat.reduceLT, Nat.reduceBEq, ↓reduceIte, Nat.reduceEqDiff, Nat.reduceAdd, Nat.reduceMul, Nat.reduceSub, Int.reduceToNat, Nat.reduceLeDiff, Int.reduceNeg, Int.reduceEq, Int.reduceLT, Int.reduceLE, Int.reduceBEq, Int.reduceBNe, Int.reduceToNat]; exact rfl) (by rfl) (by rfl) (by rfl))
        rintro ⟨k, q, n, cc⟩ ⟨d1, d2, d4, d5, d6, d7, d8⟩ R hR
        simp only at d1 d2 d4 d5 d6 d7 d8 hR ⊢
        rcases Nat.lt_or_ge k 17 with hk | hk
        · rcases d7 with ⟨rfl, rfl⟩ | rfl
          · have p1 := tick_spec ((k : Int) - 1) [] (by omega) (by decide)
            simp only [wh, List.map_nil] at p1
            have ek : (k : Int) - 1 + 1 = (k : Int) := by omega
            rw [ek] at p1
            obtain ⟨ts1, ts2⟩ := tick_split (k : Int) [] d4.srt
            rw [ts1, ts2] at p1
            obtain ⟨u1, u2, u3, u4, u5⟩ := ok_due d4 d6
            have hls := len_split (due (k : Int)) []
            generalize (List.filter (fun a => !due (k : Int) a) []) = Q at *
            generalize (List.filter (due (k : Int)) []) = B at *
            (simp (disch := first | decide | omega | (intros; exact Eq.trans rfl rfl) | (simp only [puri]; done)) only [a5_1, p1, vis, visL, visB, fillR, rowsAt, toDs, toD, ↓ops_cons, ↓ops_consz, fzTs, fzLs, rg, rd, o, oz, kc, kb, ks, kx, on, og, od, ogd, A.run, evI, evOpt, evs, evP, argF, V.cs, binD, fzV, fzL, fzVs, dataVs, dataLs, V.data, L.data, unD, fillL, List.take_succ_cons, List.take_zero, List.drop_succ_cons, List.drop_zero, List.cons_append, ne_eq, Nat.reduceLT, Nat.reduceBEq, ↓reduceIte, Nat.reduceEqDiff, Nat.reduceAdd, Nat.reduceMul, Nat.reduceSub, Int.reduceToNat, Nat.reduceLeDiff, Int.reduceNeg, Int.reduceEq, Int.reduceLT, Int.reduceLE, Int.reduceBEq, Int.reduceBNe, Int.reduceToNat, dis, vdr, A.kind, A.xs, optX])
            refine loop_box (σ := Nat) (fun i => B.length - i) (fun i => i ≤ B.length) (fun i => [vl (l.map enc8), .one (.p 0 0), vi ((n + i : Nat) : Int), vi k, vl (B.map encI), vi i]) (fun i => ([.cells [.d (.i .i64 k), .d (.l (Q.map Alarm.enc))]] : Hp)) (fun _ => (vb true, ([] : Hp))) ?_ 0 (Nat.zero_le _) _ _ (at_headM (by decide) (by simp only [List.map_cons, List.map_nil, vis, visL, visB, fillR, rowsAt, toDs, toD, ↓ops_cons, ↓ops_consz, fzTs, fzLs, rg, rd, o, oz, kc, kb, ks, kx, on, og, od, ogd, A.run, evI, evOpt, evs, evP, argF, V.cs, binD, fzV, fzL, fzVs, dataVs, dataLs, V.data, L.data, unD, fillL, List.take_succ_cons, List.take_zero, List.drop_succ_cons, List.drop_zero, List.cons_append, ne_eq, Nat.reduceLT, Nat.reduceBEq, ↓reduceIte, Nat.reduceEqDiff, Nat.reduceAdd, Nat.reduceMul, Nat.reduceSub, Int.reduceToNat, Nat.reduceLeDiff, Int.reduceNeg, Int.reduceEq, Int.reduceLT, Int.reduceLE, Int.reduceBEq, Int.reduceBNe, Int.reduceToNat]; exact rfl) (by rfl) (by rfl) (by rfl))
            intro i hi R2 hR2
            rcases Nat.lt_or_ge i B.length with hib | hib
            · obtain ⟨w1, t, ht, w2, w3⟩ := u4 B[i] (List.getElem_mem hib)
              have hx := hb l[t] (List.getElem_mem ht)
              have em : ((l[t] : Nat) : Int).tmod 16 = ((l[t] % 16 : Nat) : Int) := by rw [Int.tmod_eq_emod_of_nonneg (by omega)]; omega
              have e3 : (if 1 > ((l[t] % 16 : Nat) : Int) then 1 else ((l[t] % 16 : Nat) : Int)) = (k : Int) := w3
              cases i with
              | zero =>
                (simp (disch := first | decide | omega | (intros; exact Eq.trans rfl rfl) | (simp only [puri]; done)) only [a5_2, w2, em, e3, vis, visL, visB, fillR, rowsAt, toDs, toD, ↓ops_cons, ↓ops_consz, fzTs, fzLs, rg, rd, o, oz, kc, kb, ks, kx, on, og, od, ogd, A.run, evI, evOpt, evs, evP, argF, V.cs, binD, fzV, fzL, fzVs, dataVs, dataLs, V.data, L.data, unD, fillL, List.take_succ_cons, List.take_zero, List.drop_succ_cons, List.drop_zero, List.cons_append, ne_eq, Nat.reduceLT, Nat.reduceBEq, ↓reduceIte, Nat.reduceEqDiff, Nat.reduceAdd, Nat.reduceMul, Nat.reduceSub, Int.reduceToNat, Nat.reduceLeDiff, Int.reduceNeg, Int.reduceEq, Int.reduceLT, Int.reduceLE, Int.reduceBEq, Int.reduceBNe, Int.reduceToNat, dis, vdr, A.kind, A.xs, optX])
                exact hR2 1 (by omega) (by omega) _ _ (at_headM (by decide) (by simp only [List.map_cons, List.map_nil, vis, visL, visB, fillR, rowsAt, toDs, toD, ↓ops_cons, ↓ops_consz, fzTs, fzLs, rg, rd, o, oz, kc, kb, ks, kx, on, og, od, ogd, A.run, evI, evOpt, evs, evP, argF, V.cs, binD, fzV, fzL, fzVs, dataVs, dataLs, V.data, L.data, unD, fillL, List.take_succ_cons, List.take_zero, List.drop_succ_cons, List.drop_zero, List.cons_append, ne_eq, Nat.reduceLT, Nat.reduceBEq, ↓reduceIte, Nat.reduceEqDiff, Nat.reduceAdd, Nat.reduceMul, Nat.reduceSub, Int.reduceToNat, Nat.reduceLeDiff, Int.reduceNeg, Int.reduceEq, Int.reduceLT, Int.reduceLE, Int.reduceBEq, Int.reduceBNe, Int.reduceToNat]; exact rfl) (by rfl) (by rfl) (by rfl))
              | succ i =>
                have w5 := u5 i (i + 1) (by omega) hib (by omega)
                have e5 : ((i + 1 : Nat) : Int) - 1 = (i : Int) := by omega
                rw [w2] at w5
                (simp (disch := first | decide | omega | (intros; exact Eq.trans rfl rfl) | (simp only [puri]; done)) only [a5_2, w2, em, e3, e5, vis, visL, visB, fillR, rowsAt, toDs, toD, ↓ops_cons, ↓ops_consz, fzTs, fzLs, rg, rd, o, oz, kc, kb, ks, kx, on, og, od, ogd, A.run, evI, evOpt, evs, evP, argF, V.cs, binD, fzV, fzL, fzVs, dataVs, dataLs, V.data, L.data, unD, fillL, List.take_succ_cons, List.take_zero, List.drop_succ_cons, List.drop_zero, List.cons_append, ne_eq, Nat.reduceLT, Nat.reduceBEq, ↓reduceIte, Nat.reduceEqDiff, Nat.reduceAdd, Nat.reduceMul, Nat.reduceSub, Int.reduceToNat, Nat.reduceLeDiff, Int.reduceNeg, Int.reduceEq, Int.reduceLT, Int.reduceLE, Int.reduceBEq, Int.reduceBNe, Int.reduceToNat, dis, vdr, A.kind, A.xs, optX])
                exact hR2 (i + 1 + 1) (by omega) (by omega) _ _ (at_headM (by decide) (by simp only [List.map_cons, List.map_nil, vis, visL, visB, fillR, rowsAt, toDs, toD, ↓ops_cons, ↓ops_consz, fzTs, fzLs, rg, rd, o, oz, kc, kb, ks, kx, on, og, od, ogd, A.run, evI, evOpt, evs, evP, argF, V.cs, binD, fzV, fzL, fzVs, dataVs, dataLs, V.data, L.data, unD, fillL, List.take_succ_cons, List.take_zero, List.drop_succ_cons, List.drop_zero, List.cons_append, ne_eq, Nat.reduceLT, Nat.reduceBEq, ↓reduceIte, Nat.reduceEqDiff, Nat.reduceAdd, Nat.reduceMul, Nat.reduceSub, Int.reduceToNat, Nat.reduceLeDiff, Int.reduceNeg, Int.reduceEq, Int.reduceLT, Int.reduceLE, Int.reduceBEq, Int.reduceBNe, Int.reduceToNat]; exact rfl) (by rfl) (by rfl) (by rfl))
            · have hib' : i = B.length := by omega
              subst hib'
              (simp (disch := first | decide | omega | (intros; exact Eq.trans rfl rfl) | (simp only [puri]; done)) only [a5_2, vis, visL, visB, fillR, rowsAt, toDs, toD, ↓ops_cons, ↓ops_consz, fzTs, fzLs, rg, rd, o, oz, kc, kb, ks, kx, on, og, od, ogd, A.run, evI, evOpt, evs, evP, argF, V.cs, binD, fzV, fzL, fzVs, dataVs, dataLs, V.data, L.data, unD, fillL, List.take_succ_cons, List.take_zero, List.drop_succ_cons, List.drop_zero, List.cons_append, ne_eq, Nat.reduceLT, Nat.reduceBEq, ↓reduceIte, Nat.reduceEqDiff, Nat.reduceAdd, Nat.reduceMul, Nat.reduceSub, Int.reduceToNat, Nat.reduceLeDiff, Int.reduceNeg, Int.reduceEq, Int.reduceLT, Int.reduceLE, Int.reduceBEq, Int.reduceBNe, Int.reduceToNat, dis, vdr, A.kind, A.xs, optX])
              have hR' := hR (k + 1, Q, n + B.length, .d (.l (Q.map Alarm.enc))) (by simp only; omega) ⟨by simp only; omega, by simp only; omega, u1, by simp only; simp only [List.length_nil] at *; omega, u2, .inr rfl, fun _ => rfl⟩; simp only [show ((k + 1 : Nat) : Int) - 1 = (k : Int) by omega] at hR'; exact hR' _ _ (at_headM (by decide) (by simp only [List.map_cons, List.map_nil, vis, visL, visB, fillR, rowsAt, toDs, toD, ↓ops_cons, ↓ops_consz, fzTs, fzLs, rg, rd, o, oz, kc, kb, ks, kx, on, og, od, ogd, A.run, evI, evOpt, evs, evP, argF, V.cs, binD, fzV, fzL, fzVs, dataVs, dataLs, V.data, L.data, unD, fillL, List.take_succ_cons, List.take_zero, List.drop_succ_cons, List.drop_zero, List.cons_append, ne_eq, Nat.reduceLT, Nat.reduceBEq, ↓reduceIte, Nat.reduceEqDiff, Nat.reduceAdd, Nat.reduceMul, Nat.reduceSub, Int.reduceToNat, Nat.reduceLeDiff, Int.reduceNeg, Int.reduceEq, Int.reduceLT, Int.reduceLE, Int.reduceBEq, Int.reduceBNe, Int.reduceToNat]; exact rfl) (by rfl) (by rfl) (by rfl))

          · have p1 := tick_spec ((k : Int) - 1) q (by omega) (by omega)
            have ek : (k : Int) - 1 + 1 = (k : Int) := by omega
            rw [ek] at p1
            obtain ⟨ts1, ts2⟩ := tick_split (k : Int) q d4.srt
            rw [ts1, ts2] at p1
            obtain ⟨u1, u2, u3, u4, u5⟩ := ok_due d4 d6
            have hls := len_split (due (k : Int)) q
            generalize (List.filter (fun a => !due (k : Int) a) q) = Q at *
            generalize (List.filter (due (k : Int)) q) = B at *
            (simp (disch := first | decide | omega | (intros; exact Eq.trans rfl rfl) | (simp only [puri]; done)) only [a5_1, p1, vis, visL, visB, fillR, rowsAt, toDs, toD, ↓ops_cons, ↓ops_consz, fzTs, fzLs, rg, rd, o, oz, kc, kb, ks, kx, on, og, od, ogd, A.run, evI, evOpt, evs, evP, argF, V.cs, binD, fzV, fzL, fzVs, dataVs, dataLs, V.data, L.data, unD, fillL, List.take_succ_cons, List.take_zero, List.drop_succ_cons, List.drop_zero, List.cons_append, ne_eq, Nat.reduceLT, Nat.reduceBEq, ↓reduceIte, Nat.reduceEqDiff, Nat.reduceAdd, Nat.reduceMul, Nat.reduceSub, Int.reduceToNat, Nat.reduceLeDiff, Int.reduceNeg, Int.reduceEq, Int.reduceLT, Int.reduceLE, Int.reduceBEq, Int.reduceBNe, Int.reduceToNat, dis, vdr, A.kind, A.xs, optX])
            refine loop_box (σ := Nat) (fun i => B.length - i) (fun i => i ≤ B.length) (fun i => [vl (l.map enc8), .one (.p 0 0), vi ((n + i : Nat) : Int), vi k, vl (B.map encI), vi i]) (fun i => ([.cells [.d (.i .i64 k), .d (.l (Q.map Alarm.enc))]] : Hp)) (fun _ => (vb true, ([] : Hp))) ?_ 0 (Nat.zero_le _) _ _ (at_headM (by decide) (by simp only [List.map_cons, List.map_nil, vis, visL, visB, fillR, rowsAt, toDs, toD, ↓ops_cons, ↓ops_consz, fzTs, fzLs, rg, rd, o, oz, kc, kb, ks, kx, on, og, od, ogd, A.run, evI, evOpt, evs, evP, argF, V.cs, binD, fzV, fzL, fzVs, dataVs, dataLs, V.data, L.data, unD, fillL, List.take_succ_cons, List.take_zero, List.drop_succ_cons, List.drop_zero, List.cons_append, ne_eq, Nat.reduceLT, Nat.reduceBEq, ↓reduceIte, Nat.reduceEqDiff, Nat.reduceAdd, Nat.reduceMul, Nat.reduceSub, Int.reduceToNat, Nat.reduceLeDiff, Int.reduceNeg, Int.reduceEq, Int.reduceLT, Int.reduceLE, Int.reduceBEq, Int.reduceBNe, Int.reduceToNat]; exact rfl) (by rfl) (by rfl) (by rfl))
            intro i hi R2 hR2
            rcases Nat.lt_or_ge i B.length with hib | hib
            · obtain ⟨w1, t, ht, w2, w3⟩ := u4 B[i] (List.getElem_mem hib)
              have hx := hb l[t] (List.getElem_mem ht)
              have em : ((l[t] : Nat) : Int).tmod 16 = ((l[t] % 16 : Nat) : Int) := by rw [Int.tmod_eq_emod_of_nonneg (by omega)]; omega
              have e3 : (if 1 > ((l[t] % 16 : Nat) : Int) then 1 else ((l[t] % 16 : Nat) : Int)) = (k : Int) := w3
              cases i with
              | zero =>
                (simp (disch := first | decide | omega | (intros; exact Eq.trans rfl rfl) | (simp only [puri]; done)) only [a5_2, w2, em, e3, vis, visL, visB, fillR, rowsAt, toDs, toD, ↓ops_cons, ↓ops_consz, fzTs, fzLs, rg, rd, o, oz, kc, kb, ks, kx, on, og, od, ogd, A.run, evI, evOpt, evs, evP, argF, V.cs, binD, fzV, fzL, fzVs, dataVs, dataLs, V.data, L.data, unD, fillL, List.take_succ_cons, List.take_zero, List.drop_succ_cons, List.drop_zero, List.cons_append, ne_eq, Nat.reduceLT, Nat.reduceBEq, ↓reduceIte, Nat.reduceEqDiff, Nat.reduceAdd, Nat.reduceMul, Nat.reduceSub, Int.reduceToNat, Nat.reduceLeDiff, Int.reduceNeg, Int.reduceEq, Int.reduceLT, Int.reduceLE, Int.reduceBEq, Int.reduceBNe, Int.reduceToNat, dis, vdr, A.kind, A.xs, optX])
                exact hR2 1 (by omega) (by omega) _ _ (at_headM (by decide) (by simp only [List.map_cons, List.map_nil, vis, visL, visB, fillR, rowsAt, toDs, toD, ↓ops_cons, ↓ops_consz, fzTs, fzLs, rg, rd, o, oz, kc, kb, ks, kx, on, og, od, ogd, A.run, evI, evOpt, evs, evP, argF, V.cs, binD, fzV, fzL, fzVs, dataVs, dataLs, V.data, L.data, unD, fillL, List.take_succ_cons, List.take_zero, List.drop_succ_cons, List.drop_zero, List.cons_append, ne_eq, Nat.reduceLT, Nat.reduceBEq, ↓reduceIte, Nat.reduceEqDiff, Nat.reduceAdd, Nat.reduceMul, Nat.reduceSub, Int.reduceToNat, Nat.reduceLeDiff, Int.reduceNeg, Int.reduceEq, Int.reduceLT, Int.reduceLE, Int.reduceBEq, Int.reduceBNe, Int.reduceToNat]; exact rfl) (by rfl) (by rfl) (by rfl))
              | succ i =>
                have w5 := u5 i (i + 1) (by omega) hib (by omega)
                have e5 : ((i + 1 : Nat) : Int) - 1 = (i : Int) := by omega
                rw [w2] at w5
                (simp (disch := first | decide | omega | (intros; exact Eq.trans rfl rfl) | (simp only [puri]; done)) only [a5_2, w2, em, e3, e5, vis, visL, visB, fillR, rowsAt, toDs, toD, ↓ops_cons, ↓ops_consz, fzTs, fzLs, rg, rd, o, oz, kc, kb, ks, kx, on, og, od, ogd, A.run, evI, evOpt, evs, evP, argF, V.cs, binD, fzV, fzL, fzVs, dataVs, dataLs, V.data, L.data, unD, fillL, List.take_succ_cons, List.take_zero, List.drop_succ_cons, List.drop_zero, List.cons_append, ne_eq, Nat.reduceLT, Nat.reduceBEq, ↓reduceIte, Nat.reduceEqDiff, Nat.reduceAdd, Nat.reduceMul, Nat.reduceSub, Int.reduceToNat, Nat.reduceLeDiff, Int.reduceNeg, Int.reduceEq, Int.reduceLT, Int.reduceLE, Int.reduceBEq, Int.reduceBNe, Int.reduceToNat, dis, vdr, A.kind, A.xs, optX])
                exact hR2 (i + 1 + 1) (by omega) (by omega) _ _ (at_headM (by decide) (by simp only [List.map_cons, List.map_nil, vis, visL, visB, fillR, rowsAt, toDs, toD, ↓ops_cons, ↓ops_consz, fzTs, fzLs, rg, rd, o, oz, kc, kb, ks, kx, on, og, od, ogd, A.run, evI, evOpt, evs, evP, argF, V.cs, binD, fzV, fzL, fzVs, dataVs, dataLs, V.data, L.data, unD, fillL, List.take_succ_cons, List.take_zero, List.drop_succ_cons, List.drop_zero, List.cons_append, ne_eq, Nat.reduceLT, Nat.reduceBEq, ↓reduceIte, Nat.reduceEqDiff, Nat.reduceAdd, Nat.reduceMul, Nat.reduceSub, Int.reduceToNat, Nat.reduceLeDiff, Int.reduceNeg, Int.reduceEq, Int.reduceLT, Int.reduceLE, Int.reduceBEq, Int.reduceBNe, Int.reduceToNat]; exact rfl) (by rfl) (by rfl) (by rfl))
            · have hib' : i = B.length := by omega
              subst hib'
              (simp (disch := first | decide | omega | (intros; exact Eq.trans rfl rfl) | (simp only [puri]; done)) only [a5_2, vis, visL, visB, fillR, rowsAt, toDs, toD, ↓ops_cons, ↓ops_consz, fzTs, fzLs, rg, rd, o, oz, kc, kb, ks, kx, on, og, od, ogd, A.run, evI, evOpt, evs, evP, argF, V.cs, binD, fzV, fzL, fzVs, dataVs, dataLs, V.data, L.data, unD, fillL, List.take_succ_cons, List.take_zero, List.drop_succ_cons, List.drop_zero, List.cons_append, ne_eq, Nat.reduceLT, Nat.reduceBEq, ↓reduceIte, Nat.reduceEqDiff, Nat.reduceAdd, Nat.reduceMul, Nat.reduceSub, Int.reduceToNat, Nat.reduceLeDiff, Int.reduceNeg, Int.reduceEq, Int.reduceLT, Int.reduceLE, Int.reduceBEq, Int.reduceBNe, Int.reduceToNat, dis, vdr, A.kind, A.xs, optX])
              have hR' := hR (k + 1, Q, n + B.length, .d (.l (Q.map Alarm.enc))) (by simp only; omega) ⟨by simp only; omega, by simp only; omega, u1, by simp only; omega, u2, .inr rfl, fun _ => rfl⟩; simp only [show ((k + 1 : Nat) : Int) - 1 = (k : Int) by omega] at hR'; exact hR' _ _ (at_headM (by decide) (by simp only [List.map_cons, List.map_nil, vis, visL, visB, fillR, rowsAt, toDs, toD, ↓ops_cons, ↓ops_consz, fzTs, fzLs, rg, rd, o, oz, kc, kb, ks, kx, on, og, od, ogd, A.run, evI, evOpt, evs, evP, argF, V.cs, binD, fzV, fzL, fzVs, dataVs, dataLs, V.data, L.data, unD, fillL, List.take_succ_cons, List.take_zero, List.drop_succ_cons, List.drop_zero, List.cons_append, ne_eq, Nat.reduceLT, Nat.reduceBEq, ↓reduceIte, Nat.reduceEqDiff, Nat.reduceAdd, Nat.reduceMul, Nat.reduceSub, Int.reduceToNat, Nat.reduceLeDiff, Int.reduceNeg, Int.reduceEq, Int.reduceLT, Int.reduceLE, Int.reduceBEq, Int.reduceBNe, Int.reduceToNat]; exact rfl) (by rfl) (by rfl) (by rfl))

        · have hq0 : q = [] := by
            cases q with
            | nil => rfl
            | cons a r =>
              obtain ⟨i, hi, _, _, h⟩ := d4.at_ a List.mem_cons_self
              have := dv_in l[i]
              have := d6 a List.mem_cons_self
              omega
          have := d8 (by omega)
          subst hq0
          subst this
          simp only [List.length_nil, Nat.add_zero] at d5
          (simp (disch := first | decide | omega | (intros; exact Eq.trans rfl rfl) | (simp only [puri]; done)) only [a5_1, awake_spec, d5, vis, visL, visB, fillR, rowsAt, toDs, toD, ↓ops_cons, ↓ops_consz, fzTs, fzLs, rg, rd, o, oz, kc, kb, ks, kx, on, og, od, ogd, A.run, evI, evOpt, evs, evP, argF, V.cs, binD, fzV, fzL, fzVs, dataVs, dataLs, V.data, L.data, unD, fillL, List.take_succ_cons, List.take_zero, List.drop_succ_cons, List.drop_zero, List.cons_append, ne_eq, Nat.reduceLT, Nat.reduceBEq, ↓reduceIte, Nat.reduceEqDiff, Nat.reduceAdd, Nat.reduceMul, Nat.reduceSub, Int.reduceToNat, Nat.reduceLeDiff, Int.reduceNeg, Int.reduceEq, Int.reduceLT, Int.reduceLE, Int.reduceBEq, Int.reduceBNe, Int.reduceToNat, dis, vdr, A.kind, A.xs, optX])

      · (simp (disch := first | decide | omega | (intros; exact Eq.trans rfl rfl) | (simp only [puri]; done)) only [a5_0, e1, vis, visL, visB, fillR, rowsAt, toDs, toD, ↓ops_cons, ↓ops_consz, fzTs, fzLs, rg, rd, o, oz, kc, kb, ks, kx, on, og, od, ogd, A.run, evI, evOpt, evs, evP, argF, V.cs, binD, fzV, fzL, fzVs, dataVs, dataLs, V.data, L.data, unD, fillL, List.take_succ_cons, List.take_zero, List.drop_succ_cons, List.drop_zero, List.cons_append, ne_eq, Nat.reduceLT, Nat.reduceBEq, ↓reduceIte, Nat.reduceEqDiff, Nat.reduceAdd, Nat.reduceMul, Nat.reduceSub, Int.reduceToNat, Nat.reduceLeDiff, Int.reduceNeg, Int.reduceEq, Int.reduceLT, Int.reduceLE, Int.reduceBEq, Int.reduceBNe, Int.reduceToNat, dis, vdr, A.kind, A.xs, optX])
        refine loop_box (σ := Nat × List Alarm × Nat × L) (fun s => 20 - s.1) (fun s => 1 ≤ s.1 ∧ s.1 ≤ 17 ∧ Ok20 l 0 s.2.1 ∧ s.2.2.1 + s.2.1.length = l.length ∧ (∀ a ∈ s.2.1, (s.1 : Int) ≤ a.at_) ∧ ((s.2.2.2 = .ns ∧ s.2.1 = []) ∨ s.2.2.2 = .d (.l (s.2.1.map Alarm.enc))) ∧ (1 < s.1 → s.2.2.2 = .d (.l (s.2.1.map Alarm.enc)))) (fun s => [vl (l.map enc8), .one (.p 0 0), vi s.2.2.1, vi s.1]) (fun s => ([.cells [.d (.i .i64 ((s.1 : Int) - 1)), s.2.2.2]] : Hp)) (fun _ => (vb true, ([] : Hp))) ?_ (1, q, 0, .d (.l (q.map Alarm.enc))) ⟨Nat.le_refl _, by simp only; omega, h2, by simp only; omega, fun a ha => by obtain ⟨i, hi, _, _, h⟩ := h2.at_ a ha; have := dv_in l[i]; simp only; omega, .inr rfl, by simp⟩ _ _ (at_headM (by decide) (by simp only [List.map_cons, List.map_nil, vis, visL, visB, fillR, rowsAt, toDs, toD, ↓ops_cons, ↓ops_consz, fzTs, fzLs, rg, rd, o, oz, kc, kb, ks, kx, on, og, od, ogd, A.run, evI, evOpt, evs, evP, argF, V.cs, binD, fzV, fzL, fzVs, dataVs, dataLs, V.data, L.data, unD, fillL, List.take_succ_cons, List.take_zero, List.drop_succ_cons, List.drop_zero, List.cons_append, ne_eq, Nat.reduceLT, Nat.reduceBEq, ↓reduceIte, Nat.reduceEqDiff, Nat.reduceAdd, Nat.reduceMul, Nat.reduceSub, Int.reduceToNat, Nat.reduceLeDiff, Int.reduceNeg, Int.reduceEq, Int.reduceLT, Int.reduceLE, Int.reduceBEq, Int.reduceBNe, Int.reduceToNat]; exact rfl) (by rfl) (by rfl) (by rfl))
        rintro ⟨k, q, n, cc⟩ ⟨d1, d2, d4, d5, d6, d7, d8⟩ R hR
        simp only at d1 d2 d4 d5 d6 d7 d8 hR ⊢
        rcases Nat.lt_or_ge k 17 with hk | hk
        · rcases d7 with ⟨rfl, rfl⟩ | rfl
          · have p1 := tick_spec ((k : Int) - 1) [] (by omega) (by decide)
            simp only [wh, List.map_nil] at p1
            have ek : (k : Int) - 1 + 1 = (k : Int) := by omega
            rw [ek] at p1
            obtain ⟨ts1, ts2⟩ := tick_split (k : Int) [] d4.srt
            rw [ts1, ts2] at p1
            obtain ⟨u1, u2, u3, u4, u5⟩ := ok_due d4 d6
            have hls := len_split (due (k : Int)) []
            generalize (List.filter (fun a => !due (k : Int) a) []) = Q at *
            generalize (List.filter (due (k : Int)) []) = B at *
            (simp (disch := first | decide | omega | (intros; exact Eq.trans rfl rfl) | (simp only [puri]; done)) only [a5_1, p1, vis, visL, visB, fillR, rowsAt, toDs, toD, ↓ops_cons, ↓ops_consz, fzTs, fzLs, rg, rd, o, oz, kc, kb, ks, kx, on, og, od, ogd, A.run, evI, evOpt, evs, evP, argF, V.cs, binD, fzV, fzL, fzVs, dataVs, dataLs, V.data, L.data, unD, fillL, List.take_succ_cons, List.take_zero, List.drop_succ_cons, List.drop_zero, List.cons_append, ne_eq, Nat.reduceLT, Nat.reduceBEq, ↓reduceIte, Nat.reduceEqDiff, Nat.reduceAdd, Nat.reduceMul, Nat.reduceSub, Int.reduceToNat, Nat.reduceLeDiff, Int.reduceNeg, Int.reduceEq, Int.reduceLT, Int.reduceLE, Int.reduceBEq, Int.reduceBNe, Int.reduceToNat, dis, vdr, A.kind, A.xs, optX])
            refine loop_box (σ := Nat) (fun i => B.length - i) (fun i => i ≤ B.length) (fun i => [vl (l.map enc8), .one (.p 0 0), vi ((n + i : Nat) : Int), vi k, vl (B.map encI), vi i]) (fun i => ([.cells [.d (.i .i64 k), .d (.l (Q.map Alarm.enc))]] : Hp)) (fun _ => (vb true, ([] : Hp))) ?_ 0 (Nat.zero_le _) _ _ (at_headM (by decide) (by simp only [List.map_cons, List.map_nil, vis, visL, visB, fillR, rowsAt, toDs, toD, ↓ops_cons, ↓ops_consz, fzTs, fzLs, rg, rd, o, oz, kc, kb, ks, kx, on, og, od, ogd, A.run, evI, evOpt, evs, evP, argF, V.cs, binD, fzV, fzL, fzVs, dataVs, dataLs, V.data, L.data, unD, fillL, List.take_succ_cons, List.take_zero, List.drop_succ_cons, List.drop_zero, List.cons_append, ne_eq, Nat.reduceLT, Nat.reduceBEq, ↓reduceIte, Nat.reduceEqDiff, Nat.reduceAdd, Nat.reduceMul, Nat.reduceSub, Int.reduceToNat, Nat.reduceLeDiff, Int.reduceNeg, Int.reduceEq, Int.reduceLT, Int.reduceLE, Int.reduceBEq, Int.reduceBNe, Int.reduceToNat]; exact rfl) (by rfl) (by rfl) (by rfl))
            intro i hi R2 hR2
            rcases Nat.lt_or_ge i B.length with hib | hib
            · obtain ⟨w1, t, ht, w2, w3⟩ := u4 B[i] (List.getElem_mem hib)
              have hx := hb l[t] (List.getElem_mem ht)
              have em : ((l[t] : Nat) : Int).tmod 16 = ((l[t] % 16 : Nat) : Int) := by rw [Int.tmod_eq_emod_of_nonneg (by omega)]; omega
              have e3 : (if 1 > ((l[t] % 16 : Nat) : Int) then 1 else ((l[t] % 16 : Nat) : Int)) = (k : Int) := w3
              cases i with
              | zero =>
                (simp (disch := first | decide | omega | (intros; exact Eq.trans rfl rfl) | (simp only [puri]; done)) only [a5_2, w2, em, e3, vis, visL, visB, fillR, rowsAt, toDs, toD, ↓ops_cons, ↓ops_consz, fzTs, fzLs, rg, rd, o, oz, kc, kb, ks, kx, on, og, od, ogd, A.run, evI, evOpt, evs, evP, argF, V.cs, binD, fzV, fzL, fzVs, dataVs, dataLs, V.data, L.data, unD, fillL, List.take_succ_cons, List.take_zero, List.drop_succ_cons, List.drop_zero, List.cons_append, ne_eq, Nat.reduceLT, Nat.reduceBEq, ↓reduceIte, Nat.reduceEqDiff, Nat.reduceAdd, Nat.reduceMul, Nat.reduceSub, Int.reduceToNat, Nat.reduceLeDiff, Int.reduceNeg, Int.reduceEq, Int.reduceLT, Int.reduceLE, Int.reduceBEq, Int.reduceBNe, Int.reduceToNat, dis, vdr, A.kind, A.xs, optX])
                exact hR2 1 (by omega) (by omega) _ _ (at_headM (by decide) (by simp only [List.map_cons, List.map_nil, vis, visL, visB, fillR, rowsAt, toDs, toD, ↓ops_cons, ↓ops_consz, fzTs, fzLs, rg, rd, o, oz, kc, kb, ks, kx, on, og, od, ogd, A.run, evI, evOpt, evs, evP, argF, V.cs, binD, fzV, fzL, fzVs, dataVs, dataLs, V.data, L.data, unD, fillL, List.take_succ_cons, List.take_zero, List.drop_succ_cons, List.drop_zero, List.cons_append, ne_eq, Nat.reduceLT, Nat.reduceBEq, ↓reduceIte, Nat.reduceEqDiff, Nat.reduceAdd, Nat.reduceMul, Nat.reduceSub, Int.reduceToNat, Nat.reduceLeDiff, Int.reduceNeg, Int.reduceEq, Int.reduceLT, Int.reduceLE, Int.reduceBEq, Int.reduceBNe, Int.reduceToNat]; exact rfl) (by rfl) (by rfl) (by rfl))
              | succ i =>
                have w5 := u5 i (i + 1) (by omega) hib (by omega)
                have e5 : ((i + 1 : Nat) : Int) - 1 = (i : Int) := by omega
                rw [w2] at w5
                (simp (disch := first | decide | omega | (intros; exact Eq.trans rfl rfl) | (simp only [puri]; done)) only [a5_2, w2, em, e3, e5, vis, visL, visB, fillR, rowsAt, toDs, toD, ↓ops_cons, ↓ops_consz, fzTs, fzLs, rg, rd, o, oz, kc, kb, ks, kx, on, og, od, ogd, A.run, evI, evOpt, evs, evP, argF, V.cs, binD, fzV, fzL, fzVs, dataVs, dataLs, V.data, L.data, unD, fillL, List.take_succ_cons, List.take_zero, List.drop_succ_cons, List.drop_zero, List.cons_append, ne_eq, Nat.reduceLT, Nat.reduceBEq, ↓reduceIte, Nat.reduceEqDiff, Nat.reduceAdd, Nat.reduceMul, Nat.reduceSub, Int.reduceToNat, Nat.reduceLeDiff, Int.reduceNeg, Int.reduceEq, Int.reduceLT, Int.reduceLE, Int.reduceBEq, Int.reduceBNe, Int.reduceToNat, dis, vdr, A.kind, A.xs, optX])
                exact hR2 (i + 1 + 1) (by omega) (by omega) _ _ (at_headM (by decide) (by simp only [List.map_cons, List.map_nil, vis, visL, visB, fillR, rowsAt, toDs, toD, ↓ops_cons, ↓ops_consz, fzTs, fzLs, rg, rd, o, oz, kc, kb, ks, kx, on, og, od, ogd, A.run, evI, evOpt, evs, evP, argF, V.cs, binD, fzV, fzL, fzVs, dataVs, dataLs, V.data, L.data, unD, fillL, List.take_succ_cons, List.take_zero, List.drop_succ_cons, List.drop_zero, List.cons_append, ne_eq, Nat.reduceLT, Nat.reduceBEq, ↓reduceIte, Nat.reduceEqDiff, Nat.reduceAdd, Nat.reduceMul, Nat.reduceSub, Int.reduceToNat, Nat.reduceLeDiff, Int.reduceNeg, Int.reduceEq, Int.reduceLT, Int.reduceLE, Int.reduceBEq, Int.reduceBNe, Int.reduceToNat]; exact rfl) (by rfl) (by rfl) (by rfl))
            · have hib' : i = B.length := by omega
              subst hib'
              (simp (disch := first | decide | omega | (intros; exact Eq.trans rfl rfl) | (simp only [puri]; done)) only [a5_2, vis, visL, visB, fillR, rowsAt, toDs, toD, ↓ops_cons, ↓ops_consz, fzTs, fzLs, rg, rd, o, oz, kc, kb, ks, kx, on, og, od, ogd, A.run, evI, evOpt, evs, evP, argF, V.cs, binD, fzV, fzL, fzVs, dataVs, dataLs, V.data, L.data, unD, fillL, List.take_succ_cons, List.take_zero, List.drop_succ_cons, List.drop_zero, List.cons_append, ne_eq, Nat.reduceLT, Nat.reduceBEq, ↓reduceIte, Nat.reduceEqDiff, Nat.reduceAdd, Nat.reduceMul, Nat.reduceSub, Int.reduceToNat, Nat.reduceLeDiff, Int.reduceNeg, Int.reduceEq, Int.reduceLT, Int.reduceLE, Int.reduceBEq, Int.reduceBNe, Int.reduceToNat, dis, vdr, A.kind, A.xs, optX])
              have hR' := hR (k + 1, Q, n + B.length, .d (.l (Q.map Alarm.enc))) (by simp only; omega) ⟨by simp only; omega, by simp only; omega, u1, by simp only; simp only [List.length_nil] at *; omega, u2, .inr rfl, fun _ => rfl⟩; simp only [show ((k + 1 : Nat) : Int) - 1 = (k : Int) by omega] at hR'; exact hR' _ _ (at_headM (by decide) (by simp only [List.map_cons, List.map_nil, vis, visL, visB, fillR, rowsAt, toDs, toD, ↓ops_cons, ↓ops_consz, fzTs, fzLs, rg, rd, o, oz, kc, kb, ks, kx, on, og, od, ogd, A.run, evI, evOpt, evs, evP, argF, V.cs, binD, fzV, fzL, fzVs, dataVs, dataLs, V.data, L.data, unD, fillL, List.take_succ_cons, List.take_zero, List.drop_succ_cons, List.drop_zero, List.cons_append, ne_eq, Nat.reduceLT, Nat.reduceBEq, ↓reduceIte, Nat.reduceEqDiff, Nat.reduceAdd, Nat.reduceMul, Nat.reduceSub, Int.reduceToNat, Nat.reduceLeDiff, Int.reduceNeg, Int.reduceEq, Int.reduceLT, Int.reduceLE, Int.reduceBEq, Int.reduceBNe, Int.reduceToNat]; exact rfl) (by rfl) (by rfl) (by rfl))

          · have p1 := tick_spec ((k : Int) - 1) q (by omega) (by omega)
            have ek : (k : Int) - 1 + 1 = (k : Int) := by omega
            rw [ek] at p1
            obtain ⟨ts1, ts2⟩ := tick_split (k : Int) q d4.srt
            rw [ts1, ts2] at p1
            obtain ⟨u1, u2, u3, u4, u5⟩ := ok_due d4 d6
            have hls := len_split (due (k : Int)) q
            generalize (List.filter (fun a => !due (k : Int) a) q) = Q at *
            generalize (List.filter (due (k : Int)) q) = B at *
            (simp (disch := first | decide | omega | (intros; exact Eq.trans rfl rfl) | (simp only [puri]; done)) only [a5_1, p1, vis, visL, visB, fillR, rowsAt, toDs, toD, ↓ops_cons, ↓ops_consz, fzTs, fzLs, rg, rd, o, oz, kc, kb, ks, kx, on, og, od, ogd, A.run, evI, evOpt, evs, evP, argF, V.cs, binD, fzV, fzL, fzVs, dataVs, dataLs, V.data, L.data, unD, fillL, List.take_succ_cons, List.take_zero, List.drop_succ_cons, List.drop_zero, List.cons_append, ne_eq, Nat.reduceLT, Nat.reduceBEq, ↓reduceIte, Nat.reduceEqDiff, Nat.reduceAdd, Nat.reduceMul, Nat.reduceSub, Int.reduceToNat, Nat.reduceLeDiff, Int.reduceNeg, Int.reduceEq, Int.reduceLT, Int.reduceLE, Int.reduceBEq, Int.reduceBNe, Int.reduceToNat, dis, vdr, A.kind, A.xs, optX])
            refine loop_box (σ := Nat) (fun i => B.length - i) (fun i => i ≤ B.length) (fun i => [vl (l.map enc8), .one (.p 0 0), vi ((n + i : Nat) : Int), vi k, vl (B.map encI), vi i]) (fun i => ([.cells [.d (.i .i64 k), .d (.l (Q.map Alarm.enc))]] : Hp)) (fun _ => (vb true, ([] : Hp))) ?_ 0 (Nat.zero_le _) _ _ (at_headM (by decide) (by simp only [List.map_cons, List.map_nil, vis, visL, visB, fillR, rowsAt, toDs, toD, ↓ops_cons, ↓ops_consz, fzTs, fzLs, rg, rd, o, oz, kc, kb, ks, kx, on, og, od, ogd, A.run, evI, evOpt, evs, evP, argF, V.cs, binD, fzV, fzL, fzVs, dataVs, dataLs, V.data, L.data, unD, fillL, List.take_succ_cons, List.take_zero, List.drop_succ_cons, List.drop_zero, List.cons_append, ne_eq, Nat.reduceLT, Nat.reduceBEq, ↓reduceIte, Nat.reduceEqDiff, Nat.reduceAdd, Nat.reduceMul, Nat.reduceSub, Int.reduceToNat, Nat.reduceLeDiff, Int.reduceNeg, Int.reduceEq, Int.reduceLT, Int.reduceLE, Int.reduceBEq, Int.reduceBNe, Int.reduceToNat]; exact rfl) (by rfl) (by rfl) (by rfl))
            intro i hi R2 hR2
            rcases Nat.lt_or_ge i B.length with hib | hib
            · obtain ⟨w1, t, ht, w2, w3⟩ := u4 B[i] (List.getElem_mem hib)
              have hx := hb l[t] (List.getElem_mem ht)
              have em : ((l[t] : Nat) : Int).tmod 16 = ((l[t] % 16 : Nat) : Int) := by rw [Int.tmod_eq_emod_of_nonneg (by omega)]; omega
              have e3 : (if 1 > ((l[t] % 16 : Nat) : Int) then 1 else ((l[t] % 16 : Nat) : Int)) = (k : Int) := w3
              cases i with
              | zero =>
                (simp (disch := first | decide | omega | (intros; exact Eq.trans rfl rfl) | (simp only [puri]; done)) only [a5_2, w2, em, e3, vis, visL, visB, fillR, rowsAt, toDs, toD, ↓ops_cons, ↓ops_consz, fzTs, fzLs, rg, rd, o, oz, kc, kb, ks, kx, on, og, od, ogd, A.run, evI, evOpt, evs, evP, argF, V.cs, binD, fzV, fzL, fzVs, dataVs, dataLs, V.data, L.data, unD, fillL, List.take_succ_cons, List.take_zero, List.drop_succ_cons, List.drop_zero, List.cons_append, ne_eq, Nat.reduceLT, Nat.reduceBEq, ↓reduceIte, Nat.reduceEqDiff, Nat.reduceAdd, Nat.reduceMul, Nat.reduceSub, Int.reduceToNat, Nat.reduceLeDiff, Int.reduceNeg, Int.reduceEq, Int.reduceLT, Int.reduceLE, Int.reduceBEq, Int.reduceBNe, Int.reduceToNat, dis, vdr, A.kind, A.xs, optX])
                exact hR2 1 (by omega) (by omega) _ _ (at_headM (by decide) (by simp only [List.map_cons, List.map_nil, vis, visL, visB, fillR, rowsAt, toDs, toD, ↓ops_cons, ↓ops_consz, fzTs, fzLs, rg, rd, o, oz, kc, kb, ks, kx, on, og, od, ogd, A.run, evI, evOpt, evs, evP, argF, V.cs, binD, fzV, fzL, fzVs, dataVs, dataLs, V.data, L.data, unD, fillL, List.take_succ_cons, List.take_zero, List.drop_succ_cons, List.drop_zero, List.cons_append, ne_eq, Nat.reduceLT, Nat.reduceBEq, ↓reduceIte, Nat.reduceEqDiff, Nat.reduceAdd, Nat.reduceMul, Nat.reduceSub, Int.reduceToNat, Nat.reduceLeDiff, Int.reduceNeg, Int.reduceEq, Int.reduceLT, Int.reduceLE, Int.reduceBEq, Int.reduceBNe, Int.reduceToNat]; exact rfl) (by rfl) (by rfl) (by rfl))
              | succ i =>
                have w5 := u5 i (i + 1) (by omega) hib (by omega)
                have e5 : ((i + 1 : Nat) : Int) - 1 = (i : Int) := by omega
                rw [w2] at w5
                (simp (disch := first | decide | omega | (intros; exact Eq.trans rfl rfl) | (simp only [puri]; done)) only [a5_2, w2, em, e3, e5, vis, visL, visB, fillR, rowsAt, toDs, toD, ↓ops_cons, ↓ops_consz, fzTs, fzLs, rg, rd, o, oz, kc, kb, ks, kx, on, og, od, ogd, A.run, evI, evOpt, evs, evP, argF, V.cs, binD, fzV, fzL, fzVs, dataVs, dataLs, V.data, L.data, unD, fillL, List.take_succ_cons, List.take_zero, List.drop_succ_cons, List.drop_zero, List.cons_append, ne_eq, Nat.reduceLT, Nat.reduceBEq, ↓reduceIte, Nat.reduceEqDiff, Nat.reduceAdd, Nat.reduceMul, Nat.reduceSub, Int.reduceToNat, Nat.reduceLeDiff, Int.reduceNeg, Int.reduceEq, Int.reduceLT, Int.reduceLE, Int.reduceBEq, Int.reduceBNe, Int.reduceToNat, dis, vdr, A.kind, A.xs, optX])
                exact hR2 (i + 1 + 1) (by omega) (by omega) _ _ (at_headM (by decide) (by simp only [List.map_cons, List.map_nil, vis, visL, visB, fillR, rowsAt, toDs, toD, ↓ops_cons, ↓ops_consz, fzTs, fzLs, rg, rd, o, oz, kc, kb, ks, kx, on, og, od, ogd, A.run, evI, evOpt, evs, evP, argF, V.cs, binD, fzV, fzL, fzVs, dataVs, dataLs, V.data, L.data, unD, fillL, List.take_succ_cons, List.take_zero, List.drop_succ_cons, List.drop_zero, List.cons_append, ne_eq, Nat.reduceLT, Nat.reduceBEq, ↓reduceIte, Nat.reduceEqDiff, Nat.reduceAdd, Nat.reduceMul, Nat.reduceSub, Int.reduceToNat, Nat.reduceLeDiff, Int.reduceNeg, Int.reduceEq, Int.reduceLT, Int.reduceLE, Int.reduceBEq, Int.reduceBNe, Int.reduceToNat]; exact rfl) (by rfl) (by rfl) (by rfl))
            · have hib' : i = B.length := by omega
              subst hib'
              (simp (disch := first | decide | omega | (intros; exact Eq.trans rfl rfl) | (simp only [puri]; done)) only [a5_2, vis, visL, visB, fillR, rowsAt, toDs, toD, ↓ops_cons, ↓ops_consz, fzTs, fzLs, rg, rd, o, oz, kc, kb, ks, kx, on, og, od, ogd, A.run, evI, evOpt, evs, evP, argF, V.cs, binD, fzV, fzL, fzVs, dataVs, dataLs, V.data, L.data, unD, fillL, List.take_succ_cons, List.take_zero, List.drop_succ_cons, List.drop_zero, List.cons_append, ne_eq, Nat.reduceLT, Nat.reduceBEq, ↓reduceIte, Nat.reduceEqDiff, Nat.reduceAdd, Nat.reduceMul, Nat.reduceSub, Int.reduceToNat, Nat.reduceLeDiff, Int.reduceNeg, Int.reduceEq, Int.reduceLT, Int.reduceLE, Int.reduceBEq, Int.reduceBNe, Int.reduceToNat, dis, vdr, A.kind, A.xs, optX])
              have hR' := hR (k + 1, Q, n + B.length, .d (.l (Q.map Alarm.enc))) (by simp only; omega) ⟨by simp only; omega, by simp only; omega, u1, by simp only; omega, u2, .inr rfl, fun _ => rfl⟩; simp only [show ((k + 1 : Nat) : Int) - 1 = (k : Int) by omega] at hR'; exact hR' _ _ (at_headM (by decide) (by simp only [List.map_cons, List.map_nil, vis, visL, visB, fillR, rowsAt, toDs, toD, ↓ops_cons, ↓ops_consz, fzTs, fzLs, rg, rd, o, oz, kc, kb, ks, kx, on, og, od, ogd, A.run, evI, evOpt, evs, evP, argF, V.cs, binD, fzV, fzL, fzVs, dataVs, dataLs, V.data, L.data, unD, fillL, List.take_succ_cons, List.take_zero, List.drop_succ_cons, List.drop_zero, List.cons_append, ne_eq, Nat.reduceLT, Nat.reduceBEq, ↓reduceIte, Nat.reduceEqDiff, Nat.reduceAdd, Nat.reduceMul, Nat.reduceSub, Int.reduceToNat, Nat.reduceLeDiff, Int.reduceNeg, Int.reduceEq, Int.reduceLT, Int.reduceLE, Int.reduceBEq, Int.reduceBNe, Int.reduceToNat]; exact rfl) (by rfl) (by rfl) (by rfl))

        · have hq0 : q = [] := by
            cases q with
            | nil => rfl
            | cons a r =>
              obtain ⟨i, hi, _, _, h⟩ := d4.at_ a List.mem_cons_self
              have := dv_in l[i]
              have := d6 a List.mem_cons_self
              omega
          have := d8 (by omega)
          subst hq0
          subst this
          simp only [List.length_nil, Nat.add_zero] at d5
          (simp (disch := first | decide | omega | (intros; exact Eq.trans rfl rfl) | (simp only [puri]; done)) only [a5_1, awake_spec, d5, vis, visL, visB, fillR, rowsAt, toDs, toD, ↓ops_cons, ↓ops_consz, fzTs, fzLs, rg, rd, o, oz, kc, kb, ks, kx, on, og, od, ogd, A.run, evI, evOpt, evs, evP, argF, V.cs, binD, fzV, fzL, fzVs, dataVs, dataLs, V.data, L.data, unD, fillL, List.take_succ_cons, List.take_zero, List.drop_succ_cons, List.drop_zero, List.cons_append, ne_eq, Nat.reduceLT, Nat.reduceBEq, ↓reduceIte, Nat.reduceEqDiff, Nat.reduceAdd, Nat.reduceMul, Nat.reduceSub, Int.reduceToNat, Nat.reduceLeDiff, Int.reduceNeg, Int.reduceEq, Int.reduceLT, Int.reduceLE, Int.reduceBEq, Int.reduceBNe, Int.reduceToNat, dis, vdr, A.kind, A.xs, optX])

  · (simp (disch := first | decide | omega | (intros; exact Eq.trans rfl rfl) | (simp only [puri]; done)) only [a5, awake_spec, vis, visL, visB, fillR, rowsAt, toDs, toD, ↓ops_cons, ↓ops_consz, fzTs, fzLs, rg, rd, o, oz, kc, kb, ks, kx, on, og, od, ogd, A.run, evI, evOpt, evs, evP, argF, V.cs, binD, fzV, fzL, fzVs, dataVs, dataLs, V.data, L.data, unD, fillL, List.take_succ_cons, List.take_zero, List.drop_succ_cons, List.drop_zero, List.cons_append, ne_eq, Nat.reduceLT, Nat.reduceBEq, ↓reduceIte, Nat.reduceEqDiff, Nat.reduceAdd, Nat.reduceMul, Nat.reduceSub, Int.reduceToNat, Nat.reduceLeDiff, Int.reduceNeg, Int.reduceEq, Int.reduceLT, Int.reduceLE, Int.reduceBEq, Int.reduceBNe, Int.reduceToNat, dis])
theorem enc8.of (r : List D) (h : wfRow [.i .u8] r) : ∃ a : Nat, r = enc8 a ∧ a < 256 := by
  simp only [wfRow, wfT] at h
  obtain ⟨_, _, rfl, ⟨a, rfl, h1, h2⟩, rfl⟩ := h
  have h1' : 0 ≤ a := Int.le_trans (by decide) h1
  have h2' : a < 256 := Int.lt_of_le_of_lt h2 (by decide)
  exact ⟨a.toNat, by simp only [enc8, Int.toNat_of_nonneg h1'], by omega⟩
theorem timerPlays_pure (xs : List V) (h : wfAs [(false, [.l [.i .i64, .i .i64, .i .i64]])] xs) : call 3 xs [] = some (vb true, []) := plays_pure xs h
theorem timerOnce_pure (xs : List V) (h : wfAs [(false, [.l [.i .i64, .i .i64, .i .i64]]), (false, [.i .u8])] xs) : call 4 xs [] = some (vb true, []) := by
  simp only [wfAs, wfA] at h
  obtain ⟨_, _, rfl, ⟨d, rfl, hd⟩, _, _, rfl, ⟨e, rfl, he⟩, rfl⟩ := h
  simp only [wfRow, wfT] at hd he
  obtain ⟨_, _, e1, ⟨rows, rfl, hl, hr⟩, rfl⟩ := hd
  cases e1
  obtain ⟨_, _, e2, ⟨m, rfl, h1, h2⟩, rfl⟩ := he
  cases e2
  obtain ⟨acts, rfl, ha⟩ := rows_map Act.of rows hr
  have h1' : 0 ≤ m := Int.le_trans (by decide) h1
  have h2' : m < 256 := Int.lt_of_le_of_lt h2 (by decide)
  have ea : ((m.toNat : Nat) : Int) = m := Int.toNat_of_nonneg h1'
  have := once_spec acts m.toNat (by omega) (by simpa using hl) ha
  rw [ea] at this
  exact this
theorem timerOrder_pure (xs : List V) (h : wfAs [(false, [.l [.i .u8]])] xs) : call 5 xs [] = some (vb true, []) := by
  simp only [wfAs, wfA] at h
  obtain ⟨_, _, rfl, ⟨d, rfl, hd⟩, rfl⟩ := h
  simp only [wfRow, wfT] at hd
  obtain ⟨_, _, e1, ⟨rows, rfl, hl, hr⟩, rfl⟩ := hd
  cases e1
  obtain ⟨l, rfl, ha⟩ := rows_map enc8.of rows hr
  exact order_spec l (by simpa using hl) ha
end Go.Proofs.Ytoehimghaanjfaa
