import Derived.Test.YtoehimghaanjfaaK05
set_option linter.unusedSimpArgs false
set_option linter.unusedVariables false
namespace Go.Proofs.Ytoehimghaanjfaa
open Go.Vi
set_option linter.unusedSimpArgs false

def Srt (q : List Alarm) : Prop := q.Pairwise fun a b => ltA a b = true
def Uniq (q : List Alarm) : Prop := q.Pairwise fun a b => a.id ≠ b.id
theorem ltA_iff (a b : Alarm) : ltA a b = true ↔ a.at_ < b.at_ ∨ (a.at_ = b.at_ ∧ a.id < b.id) := by
  simp [ltA]
theorem ltA_tot {a b : Alarm} (h : a.id ≠ b.id) : ltA a b = !ltA b a := by
  have h1 := ltA_iff a b
  have h2 := ltA_iff b a
  cases c1 : ltA a b <;> cases c2 : ltA b a <;> simp_all <;> omega
def shf (a : Alarm) (r : List Alarm) (k : Nat) : List Alarm := r.take k ++ a :: r.drop k
theorem shf_len {a : Alarm} {r : List Alarm} {k : Nat} (h : k ≤ r.length) : (shf a r k).length = r.length + 1 := by
  simp only [shf, List.length_append, List.length_cons, List.length_take, List.length_drop]; omega
theorem shf_at {a : Alarm} {r : List Alarm} {j : Nat} (h : j < r.length) (h1 : j < (shf a r (j + 1)).length) (h2 : j + 1 < (shf a r (j + 1)).length) : (shf a r (j + 1))[j] = r[j] ∧ (shf a r (j + 1))[j + 1] = a := by
  constructor
  · simp only [shf]
    rw [List.getElem_append_left (by simp; omega), List.getElem_take]
  · simp only [shf]
    rw [List.getElem_append_right (by simp; omega)]
    have : j + 1 - (r.take (j + 1)).length = 0 := by simp; omega
    simp only [this, List.getElem_cons_zero]
theorem shf_swap {a : Alarm} {r : List Alarm} {j : Nat} (h : j < r.length) : ((shf a r (j + 1)).set (j + 1) r[j]).set j a = shf a r j := by
  simp only [shf]
  have e1 : r.take (j + 1) = r.take j ++ [r[j]] := take_succ_get r j h
  have l1 : (r.take j).length = j := by rw [List.length_take]; omega
  have e2 := List.drop_eq_getElem_cons h
  rw [e1, e2, List.append_assoc]
  have s1 : (r.take j ++ ([r[j]] ++ a :: r.drop (j + 1))).set (j + 1) r[j] = r.take j ++ (r[j] :: r[j] :: r.drop (j + 1)) := by
    rw [List.set_append_right _ _ (by omega), l1, show j + 1 - j = 1 by omega]; rfl
  rw [s1, List.set_append_right _ _ (by omega), l1, Nat.sub_self]; rfl
set_option maxHeartbeats 1000000 in
theorem arm_spec (now id after : Int) (q : List Alarm) (hn : 0 ≤ now ∧ now < 1000000) (ha : -9223372036854775808 ≤ after ∧ after ≤ 1099511627776) (hq : q.length ≤ 1000000)
    (hs : Srt (q.eraseP (isId id))) (hu : ∀ a ∈ q.eraseP (isId id), a.id ≠ id) :
    call 7 [wh now q, vi id, vi after] [] = some (wh now (insF ⟨id, now + (if 1 > after then 1 else after)⟩ (q.eraseP (isId id))), []) := by
  apply enterS s7 rfl
  have hc := cancel_spec now id q hq
  have hl : (q.eraseP (isId id)).length ≤ q.length := List.length_eraseP_le
  generalize q.eraseP (isId id) = r at *
  obtain ⟨m, hmm, hm⟩ : ∃ m : Int, (if 1 > after then 1 else after) = m ∧ 1 ≤ m ∧ m ≤ 1099511627776 := ⟨_, rfl, by split <;> omega⟩
  rw [hmm]
  have hcl := c17 (r.map Alarm.enc) (okRows_map Alarm.len r) (by rw [List.length_map]; omega) (by rw [List.length_map]; omega)
  obtain ⟨a, rfl, ha3⟩ : ∃ a : Alarm, a.id = id ∧ now + m = a.at_ := ⟨⟨id, now + m⟩, rfl, rfl⟩
  rw [ha3]
  show _ = some (wh now (insF a r), [])
  have stop : ∀ k, k ≤ r.length → (∀ j, j < k → ∀ h : j < r.length, k = j + 1 → ltA a r[j] = false) → (∀ x ∈ r.drop k, ltA a x = true) → shf a r k = insF a r := by
    intro k hk h1 h2
    have e : ∀ l : List Alarm, (∀ x ∈ l, ltA a x = true) → (∀ x ∈ l, x ∈ r) → l.takeWhile (bef a) = [] ∧ l.dropWhile (bef a) = l := by
      intro l hl hm
      cases l with
      | nil => exact ⟨rfl, rfl⟩
      | cons x l =>
        have h3 := hl x List.mem_cons_self
        have h4 : bef a x = false := by
          have hne : x.id ≠ a.id := hu x (hm x List.mem_cons_self)
          have := ltA_tot hne
          rw [h3] at this
          simp only [bef, this]; rfl
        exact ⟨List.takeWhile_cons_of_neg (by simp [h4]), List.dropWhile_cons_of_neg (by simp [h4])⟩
    have hall : ∀ x ∈ r.take k, bef a x = true := by
      intro x hx
      obtain ⟨i, hi, rfl⟩ := List.getElem_of_mem hx
      rw [List.length_take] at hi
      rw [List.getElem_take]
      have hkl : k - 1 < r.length := by omega
      have h5 := h1 (k - 1) (by omega) hkl (by omega)
      have h6 : ltA r[k - 1] a = true := by
        have hne : r[k - 1].id ≠ a.id := hu _ (List.getElem_mem hkl)
        have := ltA_tot hne
        rw [h5] at this; simpa using this
      rcases Nat.lt_or_ge i (k - 1) with h7 | h7
      · have h8 := List.pairwise_iff_getElem.1 hs i (k - 1) (by omega) hkl h7
        rw [ltA_iff] at h8 h6
        simp only [bef, ltA_iff]
        omega
      · have : i = k - 1 := by omega
        subst this; exact h6
    obtain ⟨e1, e2⟩ := e (r.drop k) h2 (fun x hx => List.mem_of_mem_drop hx)
    unfold insF shf
    conv => rhs; rw [← List.take_append_drop k r]
    rw [List.takeWhile_append_of_pos hall, List.dropWhile_append_of_pos hall, e1, e2, List.append_nil]
  (simp (disch := first | decide | omega | (intros; exact Eq.trans rfl rfl) | (simp only [puri]; done)) only [a7, hc, hmm, hcl, ha3, vis, visL, visB, fillR, rowsAt, toDs, toD, ↓ops_cons, ↓ops_consz, fzTs, fzLs, rg, rd, o, oz, kc, kb, ks, kx, on, og, od, ogd, A.run, evI, evOpt, evs, evP, argF, V.cs, binD, fzV, fzL, fzVs, dataVs, dataLs, V.data, L.data, unD, fillL, List.take_succ_cons, List.take_zero, List.drop_succ_cons, List.drop_zero, List.cons_append, ne_eq, Nat.reduceLT, Nat.reduceBEq, ↓reduceIte, Nat.reduceEqDiff, Nat.reduceAdd, Nat.reduceMul, Nat.reduceSub, Int.reduceToNat, Nat.reduceLeDiff, Int.reduceNeg, Int.reduceEq, Int.reduceLT, Int.reduceLE, Int.reduceBEq, Int.reduceBNe, Int.reduceToNat, dis, vdr, A.kind, A.xs, optX])
  refine loop_box (σ := Nat) (fun k => k) (fun k => k ≤ r.length ∧ ∀ x ∈ r.drop k, ltA a x = true) (fun k => [.one (.p 0 0), .one (.p 1 0), .one (.p 2 0), .one (.sl 3 2 0 (r.length + 1)), vi k])
    (fun k => ([.cells [.d (.i .i64 now), .d (.l (r.map Alarm.enc))], .cells [.d (.i .i64 0), .ns], .cells (a.enc.map .d), .arr 2 ((shf a r k).map Alarm.enc) 0] : Hp)) (fun k => (wh now (insF a r), ([] : Hp))) ?_ r.length ⟨Nat.le_refl _, by simp⟩ _ _ ?_
  · intro k hk R hR
    obtain ⟨hk, h2⟩ := hk
    have hlen := shf_len (a := a) hk
    cases k with
    | zero =>
      rw [stop 0 (by omega) (fun j hj => by omega) h2] at hlen ⊢
      have ft : ∀ n, n = (insF a r).length → List.take n (List.map Alarm.enc (insF a r)) = List.map Alarm.enc (insF a r) := fun n hn => List.take_of_length_le (by simp; omega)
      (simp (disch := first | decide | omega | (intros; exact Eq.trans rfl rfl) | (simp only [puri]; done)) only [a7_0, Alarm.len, Alarm.tkL, Alarm.lenL, Alarm.at0, Alarm.at1, Alarm.tk, vis, visL, visB, fillR, rowsAt, toDs, toD, ↓ops_cons, ↓ops_consz, fzTs, fzLs, rg, rd, o, oz, kc, kb, ks, kx, on, og, od, ogd, A.run, evI, evOpt, evs, evP, argF, V.cs, binD, fzV, fzL, fzVs, dataVs, dataLs, V.data, L.data, unD, fillL, List.take_succ_cons, List.take_zero, List.drop_succ_cons, List.drop_zero, List.cons_append, ne_eq, Nat.reduceLT, Nat.reduceBEq, ↓reduceIte, Nat.reduceEqDiff, Nat.reduceAdd, Nat.reduceMul, Nat.reduceSub, Int.reduceToNat, Nat.reduceLeDiff, Int.reduceNeg, Int.reduceEq, Int.reduceLT, Int.reduceLE, Int.reduceBEq, Int.reduceBNe, Int.reduceToNat, dis, vdr, A.kind, A.xs, optX])
      rw [ft _ (by omega)]
    | succ j =>
      have hj : j < r.length := by omega
      obtain ⟨s1, s2⟩ := shf_at (a := a) hj (by omega) (by omega)
      have hah := ahead_spec a r[j]
      have c1 : ((j + 1 : Nat) : Int) - 1 = (j : Int) := by omega
      have cb : (decide (a.at_ < r[j].at_) || (a.at_ == r[j].at_ && decide (a.id < r[j].id))) = ltA a r[j] := rfl
      rw [cb] at hah
      cases d : ltA a r[j] with
      | true =>
        rw [d] at hah
        have d2 : ∀ x : Alarm, List.drop 2 x.enc = [] := fun x => rfl
        have m1 : (List.map Alarm.enc (shf a r (j + 1))).set (j + 1) r[j].enc = List.map Alarm.enc ((shf a r (j + 1)).set (j + 1) r[j]) := List.map_set.symm
        have l2 : ((shf a r (j + 1)).set (j + 1) r[j]).length = r.length + 1 := by rw [List.length_set, hlen]
        have g2 : (List.map Alarm.enc ((shf a r (j + 1)).set (j + 1) r[j]))[j]? = some r[j].enc := by
          rw [List.getElem?_map, List.getElem?_set_ne (by omega), List.getElem?_eq_getElem (by omega), s1]; rfl
        have m2 : (List.map Alarm.enc ((shf a r (j + 1)).set (j + 1) r[j])).set j a.enc = List.map Alarm.enc (shf a r j) := by rw [← List.map_set, shf_swap hj]
        (simp (disch := first | decide | omega | (intros; exact Eq.trans rfl rfl) | (simp only [puri]; done)) only [a7_0, Alarm.len, Alarm.tkL, Alarm.lenL, Alarm.at0, Alarm.at1, Alarm.tk, Alarm.dat, s1, s2, c1, hah, d2, m1, g2, m2, vis, visL, visB, fillR, rowsAt, toDs, toD, ↓ops_cons, ↓ops_consz, fzTs, fzLs, rg, rd, o, oz, kc, kb, ks, kx, on, og, od, ogd, A.run, evI, evOpt, evs, evP, argF, V.cs, binD, fzV, fzL, fzVs, dataVs, dataLs, V.data, L.data, unD, fillL, List.take_succ_cons, List.take_zero, List.drop_succ_cons, List.drop_zero, List.cons_append, ne_eq, Nat.reduceLT, Nat.reduceBEq, ↓reduceIte, Nat.reduceEqDiff, Nat.reduceAdd, Nat.reduceMul, Nat.reduceSub, Int.reduceToNat, Nat.reduceLeDiff, Int.reduceNeg, Int.reduceEq, Int.reduceLT, Int.reduceLE, Int.reduceBEq, Int.reduceBNe, Int.reduceToNat, dis, vdr, A.kind, A.xs, optX])
        exact hR (j) (by first | omega | (simp only []; omega)) ⟨by omega, fun x hx => by rw [List.drop_eq_getElem_cons hj] at hx; rcases List.mem_cons.1 hx with rfl | hx; exact d; exact h2 x hx⟩ _ _ (at_headM (by decide) (by simp only [List.map_cons, List.map_nil, vis, visL, visB, fillR, rowsAt, toDs, toD, ↓ops_cons, ↓ops_consz, fzTs, fzLs, rg, rd, o, oz, kc, kb, ks, kx, on, og, od, ogd, A.run, evI, evOpt, evs, evP, argF, V.cs, binD, fzV, fzL, fzVs, dataVs, dataLs, V.data, L.data, unD, fillL, List.take_succ_cons, List.take_zero, List.drop_succ_cons, List.drop_zero, List.cons_append, ne_eq, Nat.reduceLT, Nat.reduceBEq, ↓reduceIte, Nat.reduceEqDiff, Nat.reduceAdd, Nat.reduceMul, Nat.reduceSub, Int.reduceToNat, Nat.reduceLeDiff, Int.reduceNeg, Int.reduceEq, Int.reduceLT, Int.reduceLE, Int.reduceBEq, Int.reduceBNe, Int.reduceToNat]; exact rfl) (by rfl) (by rfl) (by rfl))
      | false =>
        rw [d] at hah
        have hstop : shf a r (j + 1) = insF a r := by
          refine stop (j + 1) hk ?_ h2
          intro i hi h3 h4
          have e : i = j := by omega
          subst e
          exact d
        (simp (disch := first | decide | omega | (intros; exact Eq.trans rfl rfl) | (simp only [puri]; done)) only [a7_0, Alarm.len, Alarm.tkL, Alarm.lenL, Alarm.at0, Alarm.at1, Alarm.tk, Alarm.dat, s1, s2, c1, hah, vis, visL, visB, fillR, rowsAt, toDs, toD, ↓ops_cons, ↓ops_consz, fzTs, fzLs, rg, rd, o, oz, kc, kb, ks, kx, on, og, od, ogd, A.run, evI, evOpt, evs, evP, argF, V.cs, binD, fzV, fzL, fzVs, dataVs, dataLs, V.data, L.data, unD, fillL, List.take_succ_cons, List.take_zero, List.drop_succ_cons, List.drop_zero, List.cons_append, ne_eq, Nat.reduceLT, Nat.reduceBEq, ↓reduceIte, Nat.reduceEqDiff, Nat.reduceAdd, Nat.reduceMul, Nat.reduceSub, Int.reduceToNat, Nat.reduceLeDiff, Int.reduceNeg, Int.reduceEq, Int.reduceLT, Int.reduceLE, Int.reduceBEq, Int.reduceBNe, Int.reduceToNat, dis, vdr, A.kind, A.xs, optX])
        rw [hstop, List.take_of_length_le (by rw [hstop] at hlen; simp; omega)]
  · have e0 : shf a r r.length = r ++ [a] := by simp [shf]
    rw [e0, List.map_append]
    have c0 : ((r.length + 1 : Nat) : Int) - 1 = (r.length : Int) := by omega
    rw [c0]
    exact (at_headM (by decide) (by simp only [List.map_cons, List.map_nil, vis, visL, visB, fillR, rowsAt, toDs, toD, ↓ops_cons, ↓ops_consz, fzTs, fzLs, rg, rd, o, oz, kc, kb, ks, kx, on, og, od, ogd, A.run, evI, evOpt, evs, evP, argF, V.cs, binD, fzV, fzL, fzVs, dataVs, dataLs, V.data, L.data, unD, fillL, List.take_succ_cons, List.take_zero, List.drop_succ_cons, List.drop_zero, List.cons_append, ne_eq, Nat.reduceLT, Nat.reduceBEq, ↓reduceIte, Nat.reduceEqDiff, Nat.reduceAdd, Nat.reduceMul, Nat.reduceSub, Int.reduceToNat, Nat.reduceLeDiff, Int.reduceNeg, Int.reduceEq, Int.reduceLT, Int.reduceLE, Int.reduceBEq, Int.reduceBNe, Int.reduceToNat]; exact rfl) (by rfl) (by rfl) (by rfl))
end Go.Proofs.Ytoehimghaanjfaa
