import Derived.Test.YtoehimghaanjfaaK06
set_option linter.unusedSimpArgs false
set_option linter.unusedVariables false
namespace Go.Proofs.Ytoehimghaanjfaa
open Go.Vi
set_option linter.unusedSimpArgs false

/-! plain laws of wheels -/
theorem ltA_trans {a b c : Alarm} (h1 : ltA a b = true) (h2 : ltA b c = true) : ltA a c = true := by
  rw [ltA_iff] at *; omega
theorem erase_cut (id : Int) : ∀ (q : List Alarm), Uniq q → q.eraseP (isId id) = cutF id q
  | [], _ => rfl
  | a :: r, h => by
    obtain ⟨h1, h2⟩ := List.pairwise_cons.1 h
    cases d : isId id a with
    | true =>
      rw [List.eraseP_cons_of_pos d]
      simp only [cutF, List.filter_cons, d, Bool.not_true, Bool.false_eq_true, if_false]
      symm
      rw [List.filter_eq_self]
      intro x hx
      have := h1 x hx
      simp only [isId, beq_iff_eq] at d
      simp only [isId, Bool.not_eq_true', beq_eq_false_iff_ne]
      omega
    | false =>
      rw [List.eraseP_cons_of_neg (by simp [d]), erase_cut id r h2]
      simp only [cutF, List.filter_cons, d, Bool.not_false, if_true]
theorem cut_srt {id : Int} {q : List Alarm} (h : Srt q) : Srt (cutF id q) := List.Pairwise.filter _ h
theorem cut_uniq {id : Int} {q : List Alarm} (h : Uniq q) : Uniq (cutF id q) := List.Pairwise.filter _ h
theorem cut_ids {id : Int} {q : List Alarm} : ∀ a ∈ cutF id q, a.id ≠ id := by
  intro a ha
  simp only [cutF, List.mem_filter, isId, Bool.not_eq_true', beq_eq_false_iff_ne] at ha
  exact ha.2
theorem cut_len {id : Int} {q : List Alarm} : (cutF id q).length ≤ q.length := List.length_filter_le _ _
theorem ins_len {a : Alarm} {q : List Alarm} : (insF a q).length = q.length + 1 := by
  have := congrArg List.length (List.takeWhile_append_dropWhile (p := bef a) (l := q))
  simp only [insF, List.length_append, List.length_cons] at this ⊢
  omega
theorem ins_mem {a x : Alarm} {q : List Alarm} : x ∈ insF a q ↔ x = a ∨ x ∈ q := by
  conv => rhs; rw [← List.takeWhile_append_dropWhile (p := bef a) (l := q)]
  simp only [insF, List.mem_append, List.mem_cons]
  constructor
  · rintro (h | h | h)
    · exact .inr (.inl h)
    · exact .inl h
    · exact .inr (.inr h)
  · rintro (h | h | h)
    · exact .inr (.inl h)
    · exact .inl h
    · exact .inr (.inr h)
theorem drop_aft {a : Alarm} : ∀ {r : List Alarm}, Srt r → (∀ x ∈ r, x.id ≠ a.id) → ∀ y ∈ r.dropWhile (bef a), ltA a y = true
  | [], _, _, y, hy => by simp at hy
  | x :: r, hs, hu, y, hy => by
    obtain ⟨h1, h2⟩ := List.pairwise_cons.1 hs
    cases d : bef a x with
    | true =>
      rw [List.dropWhile_cons_of_pos d] at hy
      exact drop_aft h2 (fun z hz => hu z (List.mem_cons_of_mem _ hz)) y hy
    | false =>
      rw [List.dropWhile_cons_of_neg (by simp [d])] at hy
      have hx : ltA a x = true := by
        have := ltA_tot (a := a) (b := x) (fun e => hu x List.mem_cons_self e.symm)
        simp only [bef] at d
        rw [d] at this; exact this
      rcases List.mem_cons.1 hy with rfl | hy
      · exact hx
      · exact ltA_trans hx (h1 y hy)
theorem ins_srt {a : Alarm} {r : List Alarm} (hs : Srt r) (hu : ∀ x ∈ r, x.id ≠ a.id) : Srt (insF a r) := by
  have hd := drop_aft hs hu
  have hw : ∀ x ∈ r.takeWhile (bef a), ltA x a = true := fun x hx => by
    have := List.all_eq_true.1 (List.all_takeWhile (p := bef a) (l := r)) x hx
    exact this
  have hs' : (r.takeWhile (bef a) ++ r.dropWhile (bef a)).Pairwise fun a b => ltA a b = true := by rw [List.takeWhile_append_dropWhile]; exact hs
  rw [List.pairwise_append] at hs'
  obtain ⟨p1, p2, p3⟩ := hs'
  simp only [Srt, insF]
  rw [List.pairwise_append, List.pairwise_cons]
  refine ⟨p1, ⟨hd, p2⟩, fun x hx y hy => ?_⟩
  rcases List.mem_cons.1 hy with rfl | hy
  · exact hw x hx
  · exact p3 x hx y hy
theorem ins_uniq {a : Alarm} {r : List Alarm} (hs : Uniq r) (hu : ∀ x ∈ r, x.id ≠ a.id) : Uniq (insF a r) := by
  have hs' : (r.takeWhile (bef a) ++ r.dropWhile (bef a)).Pairwise fun a b => a.id ≠ b.id := by rw [List.takeWhile_append_dropWhile]; exact hs
  rw [List.pairwise_append] at hs'
  obtain ⟨p1, p2, p3⟩ := hs'
  have m1 : ∀ x ∈ r.takeWhile (bef a), x ∈ r := fun x hx => (List.takeWhile_prefix (bef a)).subset hx
  have m2 : ∀ x ∈ r.dropWhile (bef a), x ∈ r := fun x hx => (List.dropWhile_suffix (bef a)).subset hx
  simp only [Uniq, insF]
  rw [List.pairwise_append, List.pairwise_cons]
  refine ⟨p1, ⟨fun y hy e => hu y (m2 y hy) e.symm, p2⟩, fun x hx y hy => ?_⟩
  rcases List.mem_cons.1 hy with rfl | hy
  · exact hu x (m1 x hx)
  · exact p3 x hx y hy
theorem tick_split (t : Int) : ∀ (q : List Alarm), Srt q → q.takeWhile (due t) = q.filter (due t) ∧ q.dropWhile (due t) = q.filter fun a => !due t a
  | [], _ => ⟨rfl, rfl⟩
  | a :: r, h => by
    obtain ⟨h1, h2⟩ := List.pairwise_cons.1 h
    obtain ⟨e1, e2⟩ := tick_split t r h2
    cases d : due t a with
    | true =>
      rw [List.takeWhile_cons_of_pos d, List.dropWhile_cons_of_pos d, e1, e2]
      simp [List.filter_cons, d]
    | false =>
      rw [List.takeWhile_cons_of_neg (by simp [d]), List.dropWhile_cons_of_neg (by simp [d])]
      have hn : ∀ x ∈ r, due t x = false := by
        intro x hx
        have := (ltA_iff _ _).1 (h1 x hx)
        simp only [due, decide_eq_false_iff_not] at d ⊢
        omega
      constructor
      · symm; rw [List.filter_eq_nil_iff]
        intro x hx
        rcases List.mem_cons.1 hx with rfl | hx
        · simp [d]
        · simp [hn x hx]
      · symm; rw [List.filter_eq_self]
        intro x hx
        rcases List.mem_cons.1 hx with rfl | hx
        · simp [d]
        · simp [hn x hx]
theorem filter_srt {p : Alarm → Bool} {q : List Alarm} (h : Srt q) : Srt (q.filter p) := List.Pairwise.filter _ h
theorem filter_uniq {p : Alarm → Bool} {q : List Alarm} (h : Uniq q) : Uniq (q.filter p) := List.Pairwise.filter _ h
theorem awake_spec : call 6 [] [] = some (vb true, []) := by
  apply enterS s6 rfl
  have a1 : call 7 [.agg [.d (.i .i64 0), .d (.l [])], vi 5, vi 2] [] = some (wh 0 [⟨5, 2⟩], []) := arm_spec 0 5 2 [] (by decide) (by decide) (by decide) List.Pairwise.nil (by simp)
  have t1 : call 11 [.agg [.d (.i .i64 0), .d (.l [[.i .i64 5, .i .i64 2]])]] [] = some (.tup [(true, [.d (.i .i64 1), .d (.l [[.i .i64 5, .i .i64 2]])]), (false, [.d (.l [])])], []) := tick_spec 0 [⟨5, 2⟩] (by decide) (by decide)
  have t2 : call 11 [.agg [.d (.i .i64 1), .d (.l [[.i .i64 5, .i .i64 2]])]] [] = some (.tup [(true, [.d (.i .i64 2), .d (.l [])]), (false, [.d (.l [[.i .i64 5]])])], []) := tick_spec 1 [⟨5, 2⟩] (by decide) (by decide)
  have g1 : call 15 [.agg [.d (.i .i64 1), .d (.l [[.i .i64 5, .i .i64 2]])], vi 5] [] = some (vb true, []) := armed_spec 1 5 [⟨5, 2⟩] (by decide)
  have e1 : wh 0 [⟨5, 2⟩] = .agg [.d (.i .i64 0), .d (.l [[.i .i64 5, .i .i64 2]])] := rfl
  (simp (disch := first | decide | omega | (intros; exact Eq.trans rfl rfl) | (simp only [puri]; done)) only [a6, a1, e1, t1, t2, g1, vis, visL, visB, fillR, rowsAt, toDs, toD, ↓ops_cons, ↓ops_consz, fzTs, fzLs, rg, rd, o, oz, kc, kb, ks, kx, on, og, od, ogd, A.run, evI, evOpt, evs, evP, argF, V.cs, binD, fzV, fzL, fzVs, dataVs, dataLs, V.data, L.data, unD, fillL, List.take_succ_cons, List.take_zero, List.drop_succ_cons, List.drop_zero, List.cons_append, ne_eq, Nat.reduceLT, Nat.reduceBEq, ↓reduceIte, Nat.reduceEqDiff, Nat.reduceAdd, Nat.reduceMul, Nat.reduceSub, Int.reduceToNat, Nat.reduceLeDiff, Int.reduceNeg, Int.reduceEq, Int.reduceLT, Int.reduceLE, Int.reduceBEq, Int.reduceBNe, Int.reduceToNat, dis, vdr, A.kind, A.xs, optX])
end Go.Proofs.Ytoehimghaanjfaa
