import Derived.Test.YtaaonidocakiiaaP22d
set_option linter.unusedSimpArgs false
set_option linter.unusedVariables false
namespace Go.Proofs.Ytaaonidocakiiaa
open Go.Vi
set_option linter.unusedSimpArgs false

/-! the plain law -/
theorem right_first : ∀ (q : List Entry) (last : Int), -1 ≤ last → rightF q last false = true → ∀ (i : Nat) (h : i < q.length),
    decide (q[i].at_ < 0) = (decide (0 ≤ idxF (fun e : Entry => decide (e.at_ < 0)) q 0) && decide (idxF (fun e : Entry => decide (e.at_ < 0)) q 0 ≤ i)) := by
  have open_ : ∀ (q : List Entry) (last : Int), rightF q last true = true → ∀ (i : Nat) (h : i < q.length), q[i].at_ < 0 := by
    intro q
    induction q with
    | nil => intro last _ i h; simp at h
    | cons e r ih =>
      intro last hr i h
      simp only [rightF] at hr
      split at hr
      · cases hr
      rename_i hc
      have he : e.at_ < 0 := by
        rcases Int.lt_or_le e.at_ 0 with hx | hx
        · exact hx
        · exact absurd (Or.inr ⟨hx, Or.inl trivial⟩) hc
      rw [if_pos he] at hr
      cases i with
      | zero => exact he
      | succ i => exact ih last hr i (by simpa using h)
  have sh : ∀ (p : Entry → Bool) (e : Entry) (r : List Entry), p e = false → (idxF p (e :: r) 0 = if idxF p r 0 = -1 then -1 else idxF p r 0 + 1) := by
    intro p e r hp
    simp only [idxF, List.drop_zero, List.findIdx?_cons, hp]
    cases hf : r.findIdx? p with
    | none => simp
    | some i => simp
  have lo : ∀ (p : Entry → Bool) (q : List Entry), -1 ≤ idxF p q 0 := by
    intro p q; simp only [idxF]; split <;> omega
  intro q
  induction q with
  | nil => intro last _ _ i h; simp at h
  | cons e r ih =>
    intro last hl hr i h
    simp only [rightF] at hr
    split at hr
    · cases hr
    rename_i hc
    by_cases he : e.at_ < 0
    · rw [if_pos he] at hr
      have e0 : idxF (fun e : Entry => decide (e.at_ < 0)) (e :: r) 0 = 0 := by simp [idxF, List.findIdx?_cons, he]
      rw [e0]
      have : (e :: r)[i].at_ < 0 := by
        cases i with
        | zero => exact he
        | succ i => exact open_ r last hr i (by simpa using h)
      simp [this]
    · rw [if_neg he] at hr
      have e0 := sh (fun e : Entry => decide (e.at_ < 0)) e r (by simp [he])
      have l0 := lo (fun e : Entry => decide (e.at_ < 0)) r
      rw [e0]
      cases i with
      | zero =>
        have : (e :: r)[0].at_ = e.at_ := rfl
        rw [this]
        split
        · simp [he]
        · have h3 : ¬ (idxF (fun e : Entry => decide (e.at_ < 0)) r 0 + 1 ≤ ((0 : Nat) : Int)) := by omega
          simp [he]; omega
      | succ i =>
        have hi : i < r.length := by simpa using h
        have := ih e.at_ (by omega) hr i hi
        have hx : (e :: r)[i + 1].at_ = r[i].at_ := rfl
        rw [hx, this]
        split
        · rename_i e1; rw [e1]; simp
        · rw [← Bool.decide_and, ← Bool.decide_and, decide_eq_decide]
          omega
theorem idx_lt (p : Entry → Bool) (q : List Entry) : -1 ≤ idxF p q 0 ∧ (idxF p q 0 < q.length ∨ idxF p q 0 = -1) := by
  simp only [idxF, List.drop_zero]
  split
  · rename_i i hi
    have := (List.findIdx?_eq_some_iff_getElem.1 hi).1
    omega
  · omega
theorem rel_le (acked : Int) (q : List Entry) : relN acked q 0 ≤ q.length := by
  simp only [relN, List.drop_zero]
  have := (List.takeWhile_prefix (freed acked) (l := q)).length_le
  omega
theorem rel_in (acked : Int) : ∀ (q : List Entry) (i : Nat) (hi : i < q.length), i < relN acked q 0 → freed acked q[i] = true := by
  intro q i hi h
  have hle := rel_le acked q
  simp only [relN, List.drop_zero, Nat.zero_add] at h hle
  have h1 : (q.takeWhile (freed acked))[i] = q[i] := by
    exact List.IsPrefix.getElem (List.takeWhile_prefix (freed acked)) h
  rw [← h1]
  exact List.all_eq_true.1 (List.all_takeWhile (p := freed acked) (l := q)) _ (List.getElem_mem h)
theorem rel_rest (acked : Int) : ∀ (q : List Entry) (last : Int), rightF q last false = true → ∀ (i : Nat) (h : i < q.length), relN acked q 0 ≤ i → freed acked q[i] = false := by
  have rel0 : ∀ (q : List Entry), relN acked q 0 = (q.takeWhile (freed acked)).length := by intro q; simp [relN]
  have up : ∀ (q : List Entry) (last : Int) (op : Bool), rightF q last op = true → ∀ (i : Nat) (h : i < q.length), q[i].at_ < 0 ∨ (op = false ∧ last < q[i].at_) := by
    intro q
    induction q with
    | nil => intro last op _ i h; simp at h
    | cons e r ih =>
      intro last op hr i h
      simp only [rightF] at hr
      split at hr
      · cases hr
      rename_i hc
      by_cases he : e.at_ < 0
      · rw [if_pos he] at hr
        cases i with
        | zero => exact .inl he
        | succ i =>
          rcases ih last true hr i (by simpa using h) with h1 | ⟨h1, _⟩
          · exact .inl h1
          · cases h1
      · rw [if_neg he] at hr
        have hop : op = false := by
          cases op with
          | false => rfl
          | true => exact absurd (Or.inr ⟨by omega, Or.inl rfl⟩) hc
        have hla : last < e.at_ := by
          rcases Int.lt_or_le last e.at_ with hx | hx
          · exact hx
          · exact absurd (Or.inr ⟨by omega, Or.inr hx⟩) hc
        cases i with
        | zero => exact .inr ⟨hop, hla⟩
        | succ i =>
          rcases ih e.at_ op hr i (by simpa using h) with h1 | ⟨h1, h2⟩
          · exact .inl h1
          · exact .inr ⟨h1, by simp only [List.getElem_cons_succ]; omega⟩
  intro q
  induction q with
  | nil => intro last _ i h; simp at h
  | cons e r ih =>
    intro last hr i h hi
    have hr0 := hr
    simp only [rightF] at hr
    split at hr
    · cases hr
    rw [rel0, List.takeWhile_cons] at hi
    by_cases he : e.at_ < 0
    · rw [if_pos he] at hr
      cases i with
      | zero => simp [freed]; omega
      | succ i =>
        rcases up r last true hr i (by simpa using h) with h1 | ⟨h1, _⟩
        · simp [freed]; omega
        · cases h1
    · rw [if_neg he] at hr
      by_cases hf : freed acked e = true
      · rw [if_pos hf] at hi
        cases i with
        | zero => simp at hi
        | succ i => exact ih e.at_ hr i (by simpa using h) (by rw [rel0]; simpa using hi)
      · have hf' : freed acked e = false := by simpa using hf
        cases i with
        | zero => exact hf'
        | succ i =>
          have hge : acked ≤ e.at_ := by simp [freed] at hf; omega
          rcases up r e.at_ false hr i (by simpa using h) with h1 | ⟨_, h2⟩
          · simp [freed]; omega
          · simp [freed]; omega


theorem split_rel (acked : Int) (q : List Entry) (hr : rightF q (-1) false = true) : restF acked q = q.drop (relN acked q 0) ∧ outF acked q = q.take (relN acked q 0) := by
  have hle := rel_le acked q
  have h1 : ∀ e ∈ q.take (relN acked q 0), freed acked e = true := by
    intro e he
    obtain ⟨i, hi, rfl⟩ := List.getElem_of_mem he
    rw [List.getElem_take]
    simp at hi
    exact rel_in acked q i _ (by omega)
  have h2 : ∀ e ∈ q.drop (relN acked q 0), freed acked e = false := by
    intro e he
    obtain ⟨i, hi, rfl⟩ := List.getElem_of_mem he
    rw [List.getElem_drop]
    exact rel_rest acked q (-1) hr _ _ (by omega)
  constructor
  · conv => lhs; rw [← List.take_append_drop (relN acked q 0) q]
    simp only [restF, List.filter_append]
    rw [List.filter_eq_nil_iff.2 (fun e he => by simp [h1 e he]), List.filter_eq_self.2 (fun e he => by simp [h2 e he]), List.nil_append]
  · conv => lhs; rw [← List.take_append_drop (relN acked q 0) q]
    simp only [outF, List.filter_append]
    rw [List.filter_eq_self.2 (fun e he => h1 e he), List.filter_eq_nil_iff.2 (fun e he => by simp [h2 e he]), List.append_nil]

set_option maxHeartbeats 1000000 in
theorem law3 (q : List Entry) (hq : q.length ≤ 9223372036854775807) (acked : Int) : call 3 [vl (q.map Entry.enc), vi acked] [] = some (vb true, []) := by
  apply enterS s3 rfl
  have hm := may_spec q hq
  have haw := awake_spec
  have h8 := first_spec q hq
  have h9 := release_spec q acked hq
  cases hmay : mayF q with
  | false => rw [hmay] at hm; (simp (disch := first | decide | omega | (intros; exact Eq.trans rfl rfl) | (simp only [puri]; done)) only [a3, hm, haw, vis, visL, visB, fillR, rowsAt, toDs, toD, ↓ops_cons, ↓ops_consz, fzTs, fzLs, rg, rd, o, oz, kc, kb, ks, kx, on, og, od, ogd, A.run, evI, evOpt, evs, evP, argF, V.cs, binD, fzV, fzL, dataVs, dataLs, V.data, L.data, unD, fillL, List.take_succ_cons, List.take_zero, List.drop_succ_cons, List.drop_zero, List.cons_append, ne_eq, Nat.reduceLT, Nat.reduceBEq, ↓reduceIte, Nat.reduceEqDiff, Nat.reduceAdd, Nat.reduceMul, Nat.reduceSub, Int.reduceToNat, Nat.reduceLeDiff, Int.reduceNeg, Int.reduceEq, Int.reduceLT, Int.reduceLE, Int.reduceBEq, Int.reduceBNe, Int.reduceToNat, dis])
  | true =>
    rw [hmay] at hm
    have hr : rightF q (-1) false = true := by simp only [mayF, Bool.and_eq_true] at hmay; exact hmay.2.2
    obtain ⟨K, h8, hx1, hx2, hrf⟩ : ∃ K : Int, call 8 [vl (q.map Entry.enc)] [] = some (vi K, []) ∧ -1 ≤ K ∧ (K < q.length ∨ K = -1) ∧ ∀ (i : Nat) (h : i < q.length), decide (q[i].at_ < 0) = (decide (0 ≤ K) && decide (K ≤ i)) :=
      ⟨_, h8, (idx_lt _ q).1, (idx_lt _ q).2, right_first q (-1) (by omega) hr⟩
    obtain ⟨ou, re, h9, hlen, hri, hrr⟩ : ∃ ou re : List Entry, call 9 [vl (q.map Entry.enc), vi acked] [] = some (.tup [(false, [.d (.l (re.map Entry.enc))]), (false, [.d (.l (ou.map Entry.enc))])], []) ∧ ou.length + re.length = q.length ∧
        (∀ (i : Nat) (h : i < ou.length), freed acked ou[i] = true) ∧ (∀ (i : Nat) (h : i < re.length), freed acked re[i] = false) := by
      have hle := rel_le acked q
      refine ⟨_, _, h9, by simp; omega, fun i h => ?_, fun i h => ?_⟩
      · rw [List.getElem_take]; exact rel_in acked q i _ (by simp at h; omega)
      · rw [List.getElem_drop]; exact rel_rest acked q (-1) hr _ _ (by omega)
    have haw := awake_spec
    have c1 : decide (K < -1) = false := by simp; omega
    have c2 : decide ((q.length : Int) ≤ K) = false := by simp; omega
    (simp (disch := first | decide | omega | (intros; exact Eq.trans rfl rfl) | (simp only [puri]; done)) only [a3, hm, h8, h9, c1, c2, vis, visL, visB, fillR, rowsAt, toDs, toD, ↓ops_cons, ↓ops_consz, fzTs, fzLs, rg, rd, o, oz, kc, kb, ks, kx, on, og, od, ogd, A.run, evI, evOpt, evs, evP, argF, V.cs, binD, fzV, fzL, dataVs, dataLs, V.data, L.data, unD, fillL, List.take_succ_cons, List.take_zero, List.drop_succ_cons, List.drop_zero, List.cons_append, ne_eq, Nat.reduceLT, Nat.reduceBEq, ↓reduceIte, Nat.reduceEqDiff, Nat.reduceAdd, Nat.reduceMul, Nat.reduceSub, Int.reduceToNat, Nat.reduceLeDiff, Int.reduceNeg, Int.reduceEq, Int.reduceLT, Int.reduceLE, Int.reduceBEq, Int.reduceBNe, Int.reduceToNat, dis])
    refine loop_data (σ := Nat) (fun k => q.length - k) (fun k => k ≤ q.length) (fun k => [vl (q.map Entry.enc), vi acked, vi K, vi k]) (fun k => (vb true, [])) (fun _ => by simp only [vis, visL, visB, fillR, rowsAt, toDs, toD, ↓ops_cons, ↓ops_consz, fzTs, fzLs, rg, rd, o, oz, kc, kb, ks, kx, on, og, od, ogd, A.run, evI, evOpt, evs, evP, argF, V.cs, binD, fzV, fzL, dataVs, dataLs, V.data, L.data, unD, fillL, List.take_succ_cons, List.take_zero, List.drop_succ_cons, List.drop_zero, List.cons_append, ne_eq, Nat.reduceLT, Nat.reduceBEq, ↓reduceIte, Nat.reduceEqDiff, Nat.reduceAdd, Nat.reduceMul, Nat.reduceSub, Int.reduceToNat, Nat.reduceLeDiff, Int.reduceNeg, Int.reduceEq, Int.reduceLT, Int.reduceLE, Int.reduceBEq, Int.reduceBNe, Int.reduceToNat]) ?_ 0 (Nat.zero_le _) _ ?_
    · intro k hk R hR
      rcases Nat.lt_or_ge k q.length with h | h
      · have := hrf k h
        by_cases d1 : 0 ≤ K
        · by_cases d2 : K ≤ k
          · have d3 : q[k].at_ < 0 := by simpa [d1, d2] using this
            (simp (disch := first | decide | omega | (intros; exact Eq.trans rfl rfl) | (simp only [puri]; done)) only [a3_0, Entry.len, Entry.at2, vis, visL, visB, fillR, rowsAt, toDs, toD, ↓ops_cons, ↓ops_consz, fzTs, fzLs, rg, rd, o, oz, kc, kb, ks, kx, on, og, od, ogd, A.run, evI, evOpt, evs, evP, argF, V.cs, binD, fzV, fzL, dataVs, dataLs, V.data, L.data, unD, fillL, List.take_succ_cons, List.take_zero, List.drop_succ_cons, List.drop_zero, List.cons_append, ne_eq, Nat.reduceLT, Nat.reduceBEq, ↓reduceIte, Nat.reduceEqDiff, Nat.reduceAdd, Nat.reduceMul, Nat.reduceSub, Int.reduceToNat, Nat.reduceLeDiff, Int.reduceNeg, Int.reduceEq, Int.reduceLT, Int.reduceLE, Int.reduceBEq, Int.reduceBNe, Int.reduceToNat, dis])
            exact hR (k + 1) (by first | omega | (simp only []; omega)) (by first | omega | (simp only []; omega)) _ (by simp [vis, visL, visB, fillR, rowsAt, toDs, toD, ↓ops_cons, ↓ops_consz, fzTs, fzLs, rg, rd, o, oz, kc, kb, ks, kx, on, og, od, ogd, A.run, evI, evOpt, evs, evP, argF, V.cs, binD, fzV, fzL, dataVs, dataLs, V.data, L.data, unD, fillL, List.take_succ_cons, List.take_zero, List.drop_succ_cons, List.drop_zero, List.cons_append, ne_eq, Nat.reduceLT, Nat.reduceBEq, ↓reduceIte, Nat.reduceEqDiff, Nat.reduceAdd, Nat.reduceMul, Nat.reduceSub, Int.reduceToNat, Nat.reduceLeDiff, Int.reduceNeg, Int.reduceEq, Int.reduceLT, Int.reduceLE, Int.reduceBEq, Int.reduceBNe, Int.reduceToNat])
          · have d3 : ¬ q[k].at_ < 0 := by simpa [d1, d2] using this
            (simp (disch := first | decide | omega | (intros; exact Eq.trans rfl rfl) | (simp only [puri]; done)) only [a3_0, Entry.len, Entry.at2, vis, visL, visB, fillR, rowsAt, toDs, toD, ↓ops_cons, ↓ops_consz, fzTs, fzLs, rg, rd, o, oz, kc, kb, ks, kx, on, og, od, ogd, A.run, evI, evOpt, evs, evP, argF, V.cs, binD, fzV, fzL, dataVs, dataLs, V.data, L.data, unD, fillL, List.take_succ_cons, List.take_zero, List.drop_succ_cons, List.drop_zero, List.cons_append, ne_eq, Nat.reduceLT, Nat.reduceBEq, ↓reduceIte, Nat.reduceEqDiff, Nat.reduceAdd, Nat.reduceMul, Nat.reduceSub, Int.reduceToNat, Nat.reduceLeDiff, Int.reduceNeg, Int.reduceEq, Int.reduceLT, Int.reduceLE, Int.reduceBEq, Int.reduceBNe, Int.reduceToNat, dis])
            exact hR (k + 1) (by first | omega | (simp only []; omega)) (by first | omega | (simp only []; omega)) _ (by simp [vis, visL, visB, fillR, rowsAt, toDs, toD, ↓ops_cons, ↓ops_consz, fzTs, fzLs, rg, rd, o, oz, kc, kb, ks, kx, on, og, od, ogd, A.run, evI, evOpt, evs, evP, argF, V.cs, binD, fzV, fzL, dataVs, dataLs, V.data, L.data, unD, fillL, List.take_succ_cons, List.take_zero, List.drop_succ_cons, List.drop_zero, List.cons_append, ne_eq, Nat.reduceLT, Nat.reduceBEq, ↓reduceIte, Nat.reduceEqDiff, Nat.reduceAdd, Nat.reduceMul, Nat.reduceSub, Int.reduceToNat, Nat.reduceLeDiff, Int.reduceNeg, Int.reduceEq, Int.reduceLT, Int.reduceLE, Int.reduceBEq, Int.reduceBNe, Int.reduceToNat])
        · have d3 : ¬ q[k].at_ < 0 := by simpa [d1] using this
          (simp (disch := first | decide | omega | (intros; exact Eq.trans rfl rfl) | (simp only [puri]; done)) only [a3_0, Entry.len, Entry.at2, vis, visL, visB, fillR, rowsAt, toDs, toD, ↓ops_cons, ↓ops_consz, fzTs, fzLs, rg, rd, o, oz, kc, kb, ks, kx, on, og, od, ogd, A.run, evI, evOpt, evs, evP, argF, V.cs, binD, fzV, fzL, dataVs, dataLs, V.data, L.data, unD, fillL, List.take_succ_cons, List.take_zero, List.drop_succ_cons, List.drop_zero, List.cons_append, ne_eq, Nat.reduceLT, Nat.reduceBEq, ↓reduceIte, Nat.reduceEqDiff, Nat.reduceAdd, Nat.reduceMul, Nat.reduceSub, Int.reduceToNat, Nat.reduceLeDiff, Int.reduceNeg, Int.reduceEq, Int.reduceLT, Int.reduceLE, Int.reduceBEq, Int.reduceBNe, Int.reduceToNat, dis])
          exact hR (k + 1) (by first | omega | (simp only []; omega)) (by first | omega | (simp only []; omega)) _ (by simp [vis, visL, visB, fillR, rowsAt, toDs, toD, ↓ops_cons, ↓ops_consz, fzTs, fzLs, rg, rd, o, oz, kc, kb, ks, kx, on, og, od, ogd, A.run, evI, evOpt, evs, evP, argF, V.cs, binD, fzV, fzL, dataVs, dataLs, V.data, L.data, unD, fillL, List.take_succ_cons, List.take_zero, List.drop_succ_cons, List.drop_zero, List.cons_append, ne_eq, Nat.reduceLT, Nat.reduceBEq, ↓reduceIte, Nat.reduceEqDiff, Nat.reduceAdd, Nat.reduceMul, Nat.reduceSub, Int.reduceToNat, Nat.reduceLeDiff, Int.reduceNeg, Int.reduceEq, Int.reduceLT, Int.reduceLE, Int.reduceBEq, Int.reduceBNe, Int.reduceToNat])
      · (simp (disch := first | decide | omega | (intros; exact Eq.trans rfl rfl) | (simp only [puri]; done)) only [a3_0, h9, vis, visL, visB, fillR, rowsAt, toDs, toD, ↓ops_cons, ↓ops_consz, fzTs, fzLs, rg, rd, o, oz, kc, kb, ks, kx, on, og, od, ogd, A.run, evI, evOpt, evs, evP, argF, V.cs, binD, fzV, fzL, dataVs, dataLs, V.data, L.data, unD, fillL, List.take_succ_cons, List.take_zero, List.drop_succ_cons, List.drop_zero, List.cons_append, ne_eq, Nat.reduceLT, Nat.reduceBEq, ↓reduceIte, Nat.reduceEqDiff, Nat.reduceAdd, Nat.reduceMul, Nat.reduceSub, Int.reduceToNat, Nat.reduceLeDiff, Int.reduceNeg, Int.reduceEq, Int.reduceLT, Int.reduceLE, Int.reduceBEq, Int.reduceBNe, Int.reduceToNat, dis])
        refine loop_data (σ := Nat) (fun k => ou.length - k) (fun k => k ≤ ou.length) (fun k => [vi acked, vl (re.map Entry.enc), vl (ou.map Entry.enc), vi k]) (fun k => (vb true, [])) (fun _ => by simp only [vis, visL, visB, fillR, rowsAt, toDs, toD, ↓ops_cons, ↓ops_consz, fzTs, fzLs, rg, rd, o, oz, kc, kb, ks, kx, on, og, od, ogd, A.run, evI, evOpt, evs, evP, argF, V.cs, binD, fzV, fzL, dataVs, dataLs, V.data, L.data, unD, fillL, List.take_succ_cons, List.take_zero, List.drop_succ_cons, List.drop_zero, List.cons_append, ne_eq, Nat.reduceLT, Nat.reduceBEq, ↓reduceIte, Nat.reduceEqDiff, Nat.reduceAdd, Nat.reduceMul, Nat.reduceSub, Int.reduceToNat, Nat.reduceLeDiff, Int.reduceNeg, Int.reduceEq, Int.reduceLT, Int.reduceLE, Int.reduceBEq, Int.reduceBNe, Int.reduceToNat]) ?_ 0 (Nat.zero_le _) _ (by simp [vis, visL, visB, fillR, rowsAt, toDs, toD, ↓ops_cons, ↓ops_consz, fzTs, fzLs, rg, rd, o, oz, kc, kb, ks, kx, on, og, od, ogd, A.run, evI, evOpt, evs, evP, argF, V.cs, binD, fzV, fzL, dataVs, dataLs, V.data, L.data, unD, fillL, List.take_succ_cons, List.take_zero, List.drop_succ_cons, List.drop_zero, List.cons_append, ne_eq, Nat.reduceLT, Nat.reduceBEq, ↓reduceIte, Nat.reduceEqDiff, Nat.reduceAdd, Nat.reduceMul, Nat.reduceSub, Int.reduceToNat, Nat.reduceLeDiff, Int.reduceNeg, Int.reduceEq, Int.reduceLT, Int.reduceLE, Int.reduceBEq, Int.reduceBNe, Int.reduceToNat])
        intro k hk R hR
        rcases Nat.lt_or_ge k ou.length with h | h
        · have hf := hri k h
          simp only [freed, Bool.and_eq_true, decide_eq_true_eq] at hf
          (simp (disch := first | decide | omega | (intros; exact Eq.trans rfl rfl) | (simp only [puri]; done)) only [a3_1, Entry.len, Entry.at2, vis, visL, visB, fillR, rowsAt, toDs, toD, ↓ops_cons, ↓ops_consz, fzTs, fzLs, rg, rd, o, oz, kc, kb, ks, kx, on, og, od, ogd, A.run, evI, evOpt, evs, evP, argF, V.cs, binD, fzV, fzL, dataVs, dataLs, V.data, L.data, unD, fillL, List.take_succ_cons, List.take_zero, List.drop_succ_cons, List.drop_zero, List.cons_append, ne_eq, Nat.reduceLT, Nat.reduceBEq, ↓reduceIte, Nat.reduceEqDiff, Nat.reduceAdd, Nat.reduceMul, Nat.reduceSub, Int.reduceToNat, Nat.reduceLeDiff, Int.reduceNeg, Int.reduceEq, Int.reduceLT, Int.reduceLE, Int.reduceBEq, Int.reduceBNe, Int.reduceToNat, dis])
          exact hR (k + 1) (by first | omega | (simp only []; omega)) (by first | omega | (simp only []; omega)) _ (by simp [vis, visL, visB, fillR, rowsAt, toDs, toD, ↓ops_cons, ↓ops_consz, fzTs, fzLs, rg, rd, o, oz, kc, kb, ks, kx, on, og, od, ogd, A.run, evI, evOpt, evs, evP, argF, V.cs, binD, fzV, fzL, dataVs, dataLs, V.data, L.data, unD, fillL, List.take_succ_cons, List.take_zero, List.drop_succ_cons, List.drop_zero, List.cons_append, ne_eq, Nat.reduceLT, Nat.reduceBEq, ↓reduceIte, Nat.reduceEqDiff, Nat.reduceAdd, Nat.reduceMul, Nat.reduceSub, Int.reduceToNat, Nat.reduceLeDiff, Int.reduceNeg, Int.reduceEq, Int.reduceLT, Int.reduceLE, Int.reduceBEq, Int.reduceBNe, Int.reduceToNat])
        · (simp (disch := first | decide | omega | (intros; exact Eq.trans rfl rfl) | (simp only [puri]; done)) only [a3_1, vis, visL, visB, fillR, rowsAt, toDs, toD, ↓ops_cons, ↓ops_consz, fzTs, fzLs, rg, rd, o, oz, kc, kb, ks, kx, on, og, od, ogd, A.run, evI, evOpt, evs, evP, argF, V.cs, binD, fzV, fzL, dataVs, dataLs, V.data, L.data, unD, fillL, List.take_succ_cons, List.take_zero, List.drop_succ_cons, List.drop_zero, List.cons_append, ne_eq, Nat.reduceLT, Nat.reduceBEq, ↓reduceIte, Nat.reduceEqDiff, Nat.reduceAdd, Nat.reduceMul, Nat.reduceSub, Int.reduceToNat, Nat.reduceLeDiff, Int.reduceNeg, Int.reduceEq, Int.reduceLT, Int.reduceLE, Int.reduceBEq, Int.reduceBNe, Int.reduceToNat, dis])
          refine loop_data (σ := Nat) (fun k => re.length - k) (fun k => k ≤ re.length) (fun k => [vi acked, vl (re.map Entry.enc), vi k]) (fun k => (vb true, [])) (fun _ => by simp only [vis, visL, visB, fillR, rowsAt, toDs, toD, ↓ops_cons, ↓ops_consz, fzTs, fzLs, rg, rd, o, oz, kc, kb, ks, kx, on, og, od, ogd, A.run, evI, evOpt, evs, evP, argF, V.cs, binD, fzV, fzL, dataVs, dataLs, V.data, L.data, unD, fillL, List.take_succ_cons, List.take_zero, List.drop_succ_cons, List.drop_zero, List.cons_append, ne_eq, Nat.reduceLT, Nat.reduceBEq, ↓reduceIte, Nat.reduceEqDiff, Nat.reduceAdd, Nat.reduceMul, Nat.reduceSub, Int.reduceToNat, Nat.reduceLeDiff, Int.reduceNeg, Int.reduceEq, Int.reduceLT, Int.reduceLE, Int.reduceBEq, Int.reduceBNe, Int.reduceToNat]) ?_ 0 (Nat.zero_le _) _ (by simp [vis, visL, visB, fillR, rowsAt, toDs, toD, ↓ops_cons, ↓ops_consz, fzTs, fzLs, rg, rd, o, oz, kc, kb, ks, kx, on, og, od, ogd, A.run, evI, evOpt, evs, evP, argF, V.cs, binD, fzV, fzL, dataVs, dataLs, V.data, L.data, unD, fillL, List.take_succ_cons, List.take_zero, List.drop_succ_cons, List.drop_zero, List.cons_append, ne_eq, Nat.reduceLT, Nat.reduceBEq, ↓reduceIte, Nat.reduceEqDiff, Nat.reduceAdd, Nat.reduceMul, Nat.reduceSub, Int.reduceToNat, Nat.reduceLeDiff, Int.reduceNeg, Int.reduceEq, Int.reduceLT, Int.reduceLE, Int.reduceBEq, Int.reduceBNe, Int.reduceToNat])
          intro k hk R hR
          rcases Nat.lt_or_ge k re.length with h | h
          · have hf := hrr k h
            simp only [freed, Bool.and_eq_false_iff, decide_eq_false_iff_not] at hf
            by_cases d1 : 0 ≤ re[k].at_
            · (simp (disch := first | decide | omega | (intros; exact Eq.trans rfl rfl) | (simp only [puri]; done)) only [a3_2, Entry.len, Entry.at2, vis, visL, visB, fillR, rowsAt, toDs, toD, ↓ops_cons, ↓ops_consz, fzTs, fzLs, rg, rd, o, oz, kc, kb, ks, kx, on, og, od, ogd, A.run, evI, evOpt, evs, evP, argF, V.cs, binD, fzV, fzL, dataVs, dataLs, V.data, L.data, unD, fillL, List.take_succ_cons, List.take_zero, List.drop_succ_cons, List.drop_zero, List.cons_append, ne_eq, Nat.reduceLT, Nat.reduceBEq, ↓reduceIte, Nat.reduceEqDiff, Nat.reduceAdd, Nat.reduceMul, Nat.reduceSub, Int.reduceToNat, Nat.reduceLeDiff, Int.reduceNeg, Int.reduceEq, Int.reduceLT, Int.reduceLE, Int.reduceBEq, Int.reduceBNe, Int.reduceToNat, dis])
              exact hR (k + 1) (by first | omega | (simp only []; omega)) (by first | omega | (simp only []; omega)) _ (by simp [vis, visL, visB, fillR, rowsAt, toDs, toD, ↓ops_cons, ↓ops_consz, fzTs, fzLs, rg, rd, o, oz, kc, kb, ks, kx, on, og, od, ogd, A.run, evI, evOpt, evs, evP, argF, V.cs, binD, fzV, fzL, dataVs, dataLs, V.data, L.data, unD, fillL, List.take_succ_cons, List.take_zero, List.drop_succ_cons, List.drop_zero, List.cons_append, ne_eq, Nat.reduceLT, Nat.reduceBEq, ↓reduceIte, Nat.reduceEqDiff, Nat.reduceAdd, Nat.reduceMul, Nat.reduceSub, Int.reduceToNat, Nat.reduceLeDiff, Int.reduceNeg, Int.reduceEq, Int.reduceLT, Int.reduceLE, Int.reduceBEq, Int.reduceBNe, Int.reduceToNat])
            · (simp (disch := first | decide | omega | (intros; exact Eq.trans rfl rfl) | (simp only [puri]; done)) only [a3_2, Entry.len, Entry.at2, vis, visL, visB, fillR, rowsAt, toDs, toD, ↓ops_cons, ↓ops_consz, fzTs, fzLs, rg, rd, o, oz, kc, kb, ks, kx, on, og, od, ogd, A.run, evI, evOpt, evs, evP, argF, V.cs, binD, fzV, fzL, dataVs, dataLs, V.data, L.data, unD, fillL, List.take_succ_cons, List.take_zero, List.drop_succ_cons, List.drop_zero, List.cons_append, ne_eq, Nat.reduceLT, Nat.reduceBEq, ↓reduceIte, Nat.reduceEqDiff, Nat.reduceAdd, Nat.reduceMul, Nat.reduceSub, Int.reduceToNat, Nat.reduceLeDiff, Int.reduceNeg, Int.reduceEq, Int.reduceLT, Int.reduceLE, Int.reduceBEq, Int.reduceBNe, Int.reduceToNat, dis])
              exact hR (k + 1) (by first | omega | (simp only []; omega)) (by first | omega | (simp only []; omega)) _ (by simp [vis, visL, visB, fillR, rowsAt, toDs, toD, ↓ops_cons, ↓ops_consz, fzTs, fzLs, rg, rd, o, oz, kc, kb, ks, kx, on, og, od, ogd, A.run, evI, evOpt, evs, evP, argF, V.cs, binD, fzV, fzL, dataVs, dataLs, V.data, L.data, unD, fillL, List.take_succ_cons, List.take_zero, List.drop_succ_cons, List.drop_zero, List.cons_append, ne_eq, Nat.reduceLT, Nat.reduceBEq, ↓reduceIte, Nat.reduceEqDiff, Nat.reduceAdd, Nat.reduceMul, Nat.reduceSub, Int.reduceToNat, Nat.reduceLeDiff, Int.reduceNeg, Int.reduceEq, Int.reduceLT, Int.reduceLE, Int.reduceBEq, Int.reduceBNe, Int.reduceToNat])
          · (simp (disch := first | decide | omega | (intros; exact Eq.trans rfl rfl) | (simp only [puri]; done)) only [a3_2, haw, vis, visL, visB, fillR, rowsAt, toDs, toD, ↓ops_cons, ↓ops_consz, fzTs, fzLs, rg, rd, o, oz, kc, kb, ks, kx, on, og, od, ogd, A.run, evI, evOpt, evs, evP, argF, V.cs, binD, fzV, fzL, dataVs, dataLs, V.data, L.data, unD, fillL, List.take_succ_cons, List.take_zero, List.drop_succ_cons, List.drop_zero, List.cons_append, ne_eq, Nat.reduceLT, Nat.reduceBEq, ↓reduceIte, Nat.reduceEqDiff, Nat.reduceAdd, Nat.reduceMul, Nat.reduceSub, Int.reduceToNat, Nat.reduceLeDiff, Int.reduceNeg, Int.reduceEq, Int.reduceLT, Int.reduceLE, Int.reduceBEq, Int.reduceBNe, Int.reduceToNat, dis])
    · simp [vis, visL, visB, fillR, rowsAt, toDs, toD, ↓ops_cons, ↓ops_consz, fzTs, fzLs, rg, rd, o, oz, kc, kb, ks, kx, on, og, od, ogd, A.run, evI, evOpt, evs, evP, argF, V.cs, binD, fzV, fzL, dataVs, dataLs, V.data, L.data, unD, fillL, List.take_succ_cons, List.take_zero, List.drop_succ_cons, List.drop_zero, List.cons_append, ne_eq, Nat.reduceLT, Nat.reduceBEq, ↓reduceIte, Nat.reduceEqDiff, Nat.reduceAdd, Nat.reduceMul, Nat.reduceSub, Int.reduceToNat, Nat.reduceLeDiff, Int.reduceNeg, Int.reduceEq, Int.reduceLT, Int.reduceLE, Int.reduceBEq, Int.reduceBNe, Int.reduceToNat]

end Go.Proofs.Ytaaonidocakiiaa
