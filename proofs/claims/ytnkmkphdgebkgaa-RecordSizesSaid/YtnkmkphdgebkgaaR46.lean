import Derived.Test.YtnkmkphdgebkgaaR45
set_option linter.unusedSimpArgs false
set_option linter.unusedVariables false
namespace Go.Proofs.Ytnkmkphdgebkgaa
open Go.Vi
set_option linter.unusedSimpArgs false

theorem nd_mono128 {n : Nat} (h : n < 128) : nd n = 1 := nd_small h
theorem sizeR_le {r : Rec} : sizeR r ≤ 82 := by
  unfold sizeR
  split
  · rename_i c
    have hf := (why_fit.1 c).blen
    rw [frameF_len, nd_small (by omega)]; omega
  · omega
theorem sizeR_pos {r : Rec} : 0 < sizeR r ↔ whyF r = 0 := by
  unfold sizeR
  split
  · rename_i c
    have hf := (why_fit.1 c).blen
    rw [frameF_len]
    constructor
    · intro _; exact c
    · intro _; omega
  · rename_i c
    constructor
    · intro h; omega
    · intro h; exact absurd h c
def more (r : Rec) (k : Nat) : Rec := { r with da := r.da ++ List.replicate k 120 }
theorem more_succ (r : Rec) (k : Nat) : ({ more r k with da := (more r k).da ++ [120] } : Rec) = more r (k + 1) := by
  simp only [more, List.append_assoc]
  congr 2
  rw [List.replicate_succ']
theorem more_up (r : Rec) (j : Nat) : List.take 2 (List.map L.d (more r j).enc) ++ L.d (D.s ((more r j).da ++ [120])) :: List.drop 3 (List.map L.d (more r j).enc) = List.map L.d (more r (j + 1)).enc := by
  rw [← more_succ]; rfl
theorem more_fit {r : Rec} {k : Nat} (h : Fit (more r k)) : Fit r := by
  have := h.d
  simp only [more, List.length_append] at this
  exact ⟨h.a0, h.a1, h.t0, h.t1, by omega⟩
theorem more_size (r : Rec) (k : Nat) : (sizeR r = 0 ∨ sizeR (more r k) = 0 ∨ sizeR r + k ≤ sizeR (more r k)) ∧ (0 < sizeR r ∨ sizeR (more r k) = 0) := by
  by_cases c : whyF (more r k) = 0
  · have f2 := why_fit.1 c
    have f1 := more_fit f2
    have c1 := why_fit.2 f1
    have h1 := f1.blen
    have h2 := f2.blen
    have hl1 := body_len r
    have hl2 : (bodyF (more r k)).length = (bodyF r).length + k := by
      rw [hl1, body_len]
      simp only [more, List.length_append, List.length_replicate]; omega
    refine ⟨.inr (.inr ?_), .inl (sizeR_pos.2 c1)⟩
    unfold sizeR
    rw [if_pos c, if_pos c1, frameF_len, frameF_len, nd_small (by omega), nd_small (by omega), hl2]; omega
  · have : sizeR (more r k) = 0 := by
      have := (sizeR_pos (r := more r k))
      rcases Nat.eq_zero_or_pos (sizeR (more r k)) with h | h
      · exact h
      · exact absurd (this.1 h) c
    exact ⟨.inr (.inl this), .inr this⟩
set_option maxRecDepth 8000 in
theorem recordSizes_law1 (r : Rec) (hr : r.ok) (k : Nat) (hk : k < 256) : call 5 [.agg (r.enc.map .d), vk .u8 ((k : Nat) : Int)] [] = some (vb true, []) := by
  apply enterS s5 rfl
  have haw := awake_spec
  have hd := hr.2.2
  by_cases c1 : r.da.length ≤ 300
  · have p1 := putRec_spec r hr
    have p7 := sizeRec_spec r hr
    have hle := sizeR_le (r := r)
    have hpos := sizeR_pos (r := r)
    have e0 : more r 0 = r := by simp [more]
    have em : ((k : Nat) : Int).tmod 4 = ((k % 4 : Nat) : Int) := by rw [Int.tmod_eq_emod_of_nonneg (by omega)]; omega
    have hk4 : k % 4 < 4 := Nat.mod_lt _ (by decide)
    have inner : ∀ (z : List (List L)) , True := fun _ => trivial
    unfold putR at p1
    by_cases c : whyF r = 0
    · rw [if_pos c] at p1
      have hs : sizeR r = (frameF (bodyF r)).length := by unfold sizeR; rw [if_pos c]
      have h0 := hpos.2 c
      generalize frameF (bodyF r) = w at *
      (simp (disch := first | decide | omega | (intros; exact Eq.trans rfl rfl) | (simp only [puri]; done)) only [a5, Rec.len, Rec.tkL, Rec.dat, Rec.lenL, Rec.tk, Rec.fd0, Rec.fd1, Rec.fd2, Rec.at0, Rec.at1, Rec.at2, haw, p1, p7, vis, visL, visB, fillR, rowsAt, toDs, toD, ↓ops_cons, ↓ops_consz, fzTs, fzLs, rg, rd, o, oz, kc, kb, ks, kx, on, og, od, ogd, A.run, evI, evOpt, evs, evP, argF, V.cs, binD, fzV, fzL, fzVs, dataVs, dataLs, V.data, L.data, unD, fillL, List.take_succ_cons, List.take_zero, List.drop_succ_cons, List.drop_zero, List.cons_append, ne_eq, Nat.reduceLT, Nat.reduceBEq, ↓reduceIte, Nat.reduceEqDiff, Nat.reduceAdd, Nat.reduceMul, Nat.reduceSub, Int.reduceToNat, Nat.reduceLeDiff, Int.reduceNeg, Int.reduceEq, Int.reduceLT, Int.reduceLE, Int.reduceBEq, Int.reduceBNe, Int.reduceToNat, dis])
      refine loop_box (σ := Nat) (fun j => 4 - j) (fun j => j ≤ k % 4) (fun j => [vk .u8 k, vi (sizeR r), .one (.p 0 0), vi j]) (fun j => [.cells ((more r j).enc.map .d)]) (fun _ => (vb true, ([] : Hp))) ?_ 0 (Nat.zero_le _) _ _ (at_head2 (by decide) (by simp only [List.map_cons, List.map_nil, vis, visL, visB, fillR, rowsAt, toDs, toD, ↓ops_cons, ↓ops_consz, fzTs, fzLs, rg, rd, o, oz, kc, kb, ks, kx, on, og, od, ogd, A.run, evI, evOpt, evs, evP, argF, V.cs, binD, fzV, fzL, fzVs, dataVs, dataLs, V.data, L.data, unD, fillL, List.take_succ_cons, List.take_zero, List.drop_succ_cons, List.drop_zero, List.cons_append, ne_eq, Nat.reduceLT, Nat.reduceBEq, ↓reduceIte, Nat.reduceEqDiff, Nat.reduceAdd, Nat.reduceMul, Nat.reduceSub, Int.reduceToNat, Nat.reduceLeDiff, Int.reduceNeg, Int.reduceEq, Int.reduceLT, Int.reduceLE, Int.reduceBEq, Int.reduceBNe, Int.reduceToNat]; exact rfl) (by simp [idsOf, reach, place_cons, place_nil, canonH, V.ren, L.ren, Box.ren, V.refs, L.refs, Box.refs, e0, Rec.rfs, Rec.rn]) (by simp [idsOf, reach, place_cons, place_nil, canonH, V.ren, L.ren, Box.ren, V.refs, L.refs, Box.refs, e0, Rec.rfs, Rec.rn]))
      intro j hj R hR
      rcases Nat.lt_or_ge j (k % 4) with h | h
      · have hln : (more r j).da.length ≤ 1000 := by simp [more]; omega
        (simp (disch := first | decide | omega | (intros; exact Eq.trans rfl rfl) | (simp only [puri]; done)) only [a5_0, Rec.len, Rec.tkL, Rec.dat, Rec.lenL, Rec.tk, Rec.fd0, Rec.fd1, Rec.fd2, Rec.at0, Rec.at1, Rec.at2, em, vis, visL, visB, fillR, rowsAt, toDs, toD, ↓ops_cons, ↓ops_consz, fzTs, fzLs, rg, rd, o, oz, kc, kb, ks, kx, on, og, od, ogd, A.run, evI, evOpt, evs, evP, argF, V.cs, binD, fzV, fzL, fzVs, dataVs, dataLs, V.data, L.data, unD, fillL, List.take_succ_cons, List.take_zero, List.drop_succ_cons, List.drop_zero, List.cons_append, ne_eq, Nat.reduceLT, Nat.reduceBEq, ↓reduceIte, Nat.reduceEqDiff, Nat.reduceAdd, Nat.reduceMul, Nat.reduceSub, Int.reduceToNat, Nat.reduceLeDiff, Int.reduceNeg, Int.reduceEq, Int.reduceLT, Int.reduceLE, Int.reduceBEq, Int.reduceBNe, Int.reduceToNat, dis])
        exact hR (j + 1) (by omega) (by omega) _ _ (at_head2 (by decide) (by simp only [List.map_cons, List.map_nil, vis, visL, visB, fillR, rowsAt, toDs, toD, ↓ops_cons, ↓ops_consz, fzTs, fzLs, rg, rd, o, oz, kc, kb, ks, kx, on, og, od, ogd, A.run, evI, evOpt, evs, evP, argF, V.cs, binD, fzV, fzL, fzVs, dataVs, dataLs, V.data, L.data, unD, fillL, List.take_succ_cons, List.take_zero, List.drop_succ_cons, List.drop_zero, List.cons_append, ne_eq, Nat.reduceLT, Nat.reduceBEq, ↓reduceIte, Nat.reduceEqDiff, Nat.reduceAdd, Nat.reduceMul, Nat.reduceSub, Int.reduceToNat, Nat.reduceLeDiff, Int.reduceNeg, Int.reduceEq, Int.reduceLT, Int.reduceLE, Int.reduceBEq, Int.reduceBNe, Int.reduceToNat]; exact rfl) (by simp [idsOf, reach, place_cons, place_nil, canonH, V.ren, L.ren, Box.ren, V.refs, L.refs, Box.refs, more_up, Rec.rfs, Rec.rn]) (by simp [idsOf, reach, place_cons, place_nil, canonH, V.ren, L.ren, Box.ren, V.refs, L.refs, Box.refs, more_up, Rec.rfs, Rec.rn]))
      · have hj' : j = k % 4 := by omega
        subst hj'
        have p8 := sizeRec_spec (more r (k % 4)) ⟨hr.1, hr.2.1, by simp [more]; omega⟩
        have hle2 := sizeR_le (r := more r (k % 4))
        obtain ⟨m1, m2⟩ := more_size r (k % 4)
        by_cases d0 : sizeR (more r (k % 4)) = 0
        · rw [d0] at p8
          (simp (disch := first | decide | omega | (intros; exact Eq.trans rfl rfl) | (simp only [puri]; done)) only [a5_0, Rec.len, Rec.tkL, Rec.dat, Rec.lenL, Rec.tk, Rec.fd0, Rec.fd1, Rec.fd2, Rec.at0, Rec.at1, Rec.at2, em, p8, haw, vis, visL, visB, fillR, rowsAt, toDs, toD, ↓ops_cons, ↓ops_consz, fzTs, fzLs, rg, rd, o, oz, kc, kb, ks, kx, on, og, od, ogd, A.run, evI, evOpt, evs, evP, argF, V.cs, binD, fzV, fzL, fzVs, dataVs, dataLs, V.data, L.data, unD, fillL, List.take_succ_cons, List.take_zero, List.drop_succ_cons, List.drop_zero, List.cons_append, ne_eq, Nat.reduceLT, Nat.reduceBEq, ↓reduceIte, Nat.reduceEqDiff, Nat.reduceAdd, Nat.reduceMul, Nat.reduceSub, Int.reduceToNat, Nat.reduceLeDiff, Int.reduceNeg, Int.reduceEq, Int.reduceLT, Int.reduceLE, Int.reduceBEq, Int.reduceBNe, Int.reduceToNat, dis])
        · have d1 : sizeR r + k % 4 ≤ sizeR (more r (k % 4)) := by omega
          (simp (disch := first | decide | omega | (intros; exact Eq.trans rfl rfl) | (simp only [puri]; done)) only [a5_0, Rec.len, Rec.tkL, Rec.dat, Rec.lenL, Rec.tk, Rec.fd0, Rec.fd1, Rec.fd2, Rec.at0, Rec.at1, Rec.at2, em, p8, haw, vis, visL, visB, fillR, rowsAt, toDs, toD, ↓ops_cons, ↓ops_consz, fzTs, fzLs, rg, rd, o, oz, kc, kb, ks, kx, on, og, od, ogd, A.run, evI, evOpt, evs, evP, argF, V.cs, binD, fzV, fzL, fzVs, dataVs, dataLs, V.data, L.data, unD, fillL, List.take_succ_cons, List.take_zero, List.drop_succ_cons, List.drop_zero, List.cons_append, ne_eq, Nat.reduceLT, Nat.reduceBEq, ↓reduceIte, Nat.reduceEqDiff, Nat.reduceAdd, Nat.reduceMul, Nat.reduceSub, Int.reduceToNat, Nat.reduceLeDiff, Int.reduceNeg, Int.reduceEq, Int.reduceLT, Int.reduceLE, Int.reduceBEq, Int.reduceBNe, Int.reduceToNat, dis])
    · rw [if_neg c] at p1
      have hs : sizeR r = 0 := by unfold sizeR; rw [if_neg c]
      (simp (disch := first | decide | omega | (intros; exact Eq.trans rfl rfl) | (simp only [puri]; done)) only [a5, Rec.len, Rec.tkL, Rec.dat, Rec.lenL, Rec.tk, Rec.fd0, Rec.fd1, Rec.fd2, Rec.at0, Rec.at1, Rec.at2, haw, p1, p7, vis, visL, visB, fillR, rowsAt, toDs, toD, ↓ops_cons, ↓ops_consz, fzTs, fzLs, rg, rd, o, oz, kc, kb, ks, kx, on, og, od, ogd, A.run, evI, evOpt, evs, evP, argF, V.cs, binD, fzV, fzL, fzVs, dataVs, dataLs, V.data, L.data, unD, fillL, List.take_succ_cons, List.take_zero, List.drop_succ_cons, List.drop_zero, List.cons_append, ne_eq, Nat.reduceLT, Nat.reduceBEq, ↓reduceIte, Nat.reduceEqDiff, Nat.reduceAdd, Nat.reduceMul, Nat.reduceSub, Int.reduceToNat, Nat.reduceLeDiff, Int.reduceNeg, Int.reduceEq, Int.reduceLT, Int.reduceLE, Int.reduceBEq, Int.reduceBNe, Int.reduceToNat, dis])
      refine loop_box (σ := Nat) (fun j => 4 - j) (fun j => j ≤ k % 4) (fun j => [vk .u8 k, vi (sizeR r), .one (.p 0 0), vi j]) (fun j => [.cells ((more r j).enc.map .d)]) (fun _ => (vb true, ([] : Hp))) ?_ 0 (Nat.zero_le _) _ _ (at_head2 (by decide) (by simp only [List.map_cons, List.map_nil, vis, visL, visB, fillR, rowsAt, toDs, toD, ↓ops_cons, ↓ops_consz, fzTs, fzLs, rg, rd, o, oz, kc, kb, ks, kx, on, og, od, ogd, A.run, evI, evOpt, evs, evP, argF, V.cs, binD, fzV, fzL, fzVs, dataVs, dataLs, V.data, L.data, unD, fillL, List.take_succ_cons, List.take_zero, List.drop_succ_cons, List.drop_zero, List.cons_append, ne_eq, Nat.reduceLT, Nat.reduceBEq, ↓reduceIte, Nat.reduceEqDiff, Nat.reduceAdd, Nat.reduceMul, Nat.reduceSub, Int.reduceToNat, Nat.reduceLeDiff, Int.reduceNeg, Int.reduceEq, Int.reduceLT, Int.reduceLE, Int.reduceBEq, Int.reduceBNe, Int.reduceToNat]; exact rfl) (by simp [idsOf, reach, place_cons, place_nil, canonH, V.ren, L.ren, Box.ren, V.refs, L.refs, Box.refs, e0, Rec.rfs, Rec.rn]) (by simp [idsOf, reach, place_cons, place_nil, canonH, V.ren, L.ren, Box.ren, V.refs, L.refs, Box.refs, e0, Rec.rfs, Rec.rn]))
      intro j hj R hR
      rcases Nat.lt_or_ge j (k % 4) with h | h
      · have hln : (more r j).da.length ≤ 1000 := by simp [more]; omega
        (simp (disch := first | decide | omega | (intros; exact Eq.trans rfl rfl) | (simp only [puri]; done)) only [a5_0, Rec.len, Rec.tkL, Rec.dat, Rec.lenL, Rec.tk, Rec.fd0, Rec.fd1, Rec.fd2, Rec.at0, Rec.at1, Rec.at2, em, vis, visL, visB, fillR, rowsAt, toDs, toD, ↓ops_cons, ↓ops_consz, fzTs, fzLs, rg, rd, o, oz, kc, kb, ks, kx, on, og, od, ogd, A.run, evI, evOpt, evs, evP, argF, V.cs, binD, fzV, fzL, fzVs, dataVs, dataLs, V.data, L.data, unD, fillL, List.take_succ_cons, List.take_zero, List.drop_succ_cons, List.drop_zero, List.cons_append, ne_eq, Nat.reduceLT, Nat.reduceBEq, ↓reduceIte, Nat.reduceEqDiff, Nat.reduceAdd, Nat.reduceMul, Nat.reduceSub, Int.reduceToNat, Nat.reduceLeDiff, Int.reduceNeg, Int.reduceEq, Int.reduceLT, Int.reduceLE, Int.reduceBEq, Int.reduceBNe, Int.reduceToNat, dis])
        exact hR (j + 1) (by omega) (by omega) _ _ (at_head2 (by decide) (by simp only [List.map_cons, List.map_nil, vis, visL, visB, fillR, rowsAt, toDs, toD, ↓ops_cons, ↓ops_consz, fzTs, fzLs, rg, rd, o, oz, kc, kb, ks, kx, on, og, od, ogd, A.run, evI, evOpt, evs, evP, argF, V.cs, binD, fzV, fzL, fzVs, dataVs, dataLs, V.data, L.data, unD, fillL, List.take_succ_cons, List.take_zero, List.drop_succ_cons, List.drop_zero, List.cons_append, ne_eq, Nat.reduceLT, Nat.reduceBEq, ↓reduceIte, Nat.reduceEqDiff, Nat.reduceAdd, Nat.reduceMul, Nat.reduceSub, Int.reduceToNat, Nat.reduceLeDiff, Int.reduceNeg, Int.reduceEq, Int.reduceLT, Int.reduceLE, Int.reduceBEq, Int.reduceBNe, Int.reduceToNat]; exact rfl) (by simp [idsOf, reach, place_cons, place_nil, canonH, V.ren, L.ren, Box.ren, V.refs, L.refs, Box.refs, more_up, Rec.rfs, Rec.rn]) (by simp [idsOf, reach, place_cons, place_nil, canonH, V.ren, L.ren, Box.ren, V.refs, L.refs, Box.refs, more_up, Rec.rfs, Rec.rn]))
      · have hj' : j = k % 4 := by omega
        subst hj'
        have p8 := sizeRec_spec (more r (k % 4)) ⟨hr.1, hr.2.1, by simp [more]; omega⟩
        obtain ⟨m1, m2⟩ := more_size r (k % 4)
        have d0 : sizeR (more r (k % 4)) = 0 := by omega
        rw [d0] at p8
        rw [hs]
        (simp (disch := first | decide | omega | (intros; exact Eq.trans rfl rfl) | (simp only [puri]; done)) only [a5_0, Rec.len, Rec.tkL, Rec.dat, Rec.lenL, Rec.tk, Rec.fd0, Rec.fd1, Rec.fd2, Rec.at0, Rec.at1, Rec.at2, em, p8, haw, vis, visL, visB, fillR, rowsAt, toDs, toD, ↓ops_cons, ↓ops_consz, fzTs, fzLs, rg, rd, o, oz, kc, kb, ks, kx, on, og, od, ogd, A.run, evI, evOpt, evs, evP, argF, V.cs, binD, fzV, fzL, fzVs, dataVs, dataLs, V.data, L.data, unD, fillL, List.take_succ_cons, List.take_zero, List.drop_succ_cons, List.drop_zero, List.cons_append, ne_eq, Nat.reduceLT, Nat.reduceBEq, ↓reduceIte, Nat.reduceEqDiff, Nat.reduceAdd, Nat.reduceMul, Nat.reduceSub, Int.reduceToNat, Nat.reduceLeDiff, Int.reduceNeg, Int.reduceEq, Int.reduceLT, Int.reduceLE, Int.reduceBEq, Int.reduceBNe, Int.reduceToNat, dis])
  · (simp (disch := first | decide | omega | (intros; exact Eq.trans rfl rfl) | (simp only [puri]; done)) only [a5, Rec.len, Rec.tkL, Rec.dat, Rec.lenL, Rec.tk, Rec.fd0, Rec.fd1, Rec.fd2, Rec.at0, Rec.at1, Rec.at2, haw, vis, visL, visB, fillR, rowsAt, toDs, toD, ↓ops_cons, ↓ops_consz, fzTs, fzLs, rg, rd, o, oz, kc, kb, ks, kx, on, og, od, ogd, A.run, evI, evOpt, evs, evP, argF, V.cs, binD, fzV, fzL, fzVs, dataVs, dataLs, V.data, L.data, unD, fillL, List.take_succ_cons, List.take_zero, List.drop_succ_cons, List.drop_zero, List.cons_append, ne_eq, Nat.reduceLT, Nat.reduceBEq, ↓reduceIte, Nat.reduceEqDiff, Nat.reduceAdd, Nat.reduceMul, Nat.reduceSub, Int.reduceToNat, Nat.reduceLeDiff, Int.reduceNeg, Int.reduceEq, Int.reduceLT, Int.reduceLE, Int.reduceBEq, Int.reduceBNe, Int.reduceToNat, dis])

theorem recordSizes_pure (xs : List V) (h : wfAs [(true, [.i .i64, .i .i64, .s]), (false, [.i .u8])] xs) : call 5 xs [] = some (vb true, []) := by
  simp only [wfAs, wfA] at h
  obtain ⟨_, _, rfl, ⟨d, rfl, hd⟩, _, _, rfl, ⟨e, rfl, he⟩, rfl⟩ := h
  simp only [wfRow, wfT] at he
  obtain ⟨_, _, e1, ⟨b, rfl, h1, h2⟩, rfl⟩ := he
  cases e1
  obtain ⟨r, rfl, hr⟩ := Rec.of d hd
  have h1' : 0 ≤ b := Int.le_trans (by decide) h1
  have h2' : b < 256 := Int.lt_of_le_of_lt h2 (by decide)
  have ea : ((b.toNat : Nat) : Int) = b := Int.toNat_of_nonneg h1'
  have := recordSizes_law1 r hr b.toNat (by omega)
  rw [ea] at this
  exact this
theorem recordTells_pure (xs : List V) (h : wfAs [(true, [.i .i64, .i .i64, .s]), (false, [.s])] xs) : call 4 xs [] = some (vb true, []) := by
  simp only [wfAs, wfA] at h
  obtain ⟨_, _, rfl, ⟨d, rfl, hd⟩, _, _, rfl, ⟨e, rfl, he⟩, rfl⟩ := h
  simp only [wfRow, wfT] at he
  obtain ⟨_, _, e1, ⟨b, rfl, hb⟩, rfl⟩ := he
  cases e1
  obtain ⟨r, rfl, hr⟩ := Rec.of d hd
  exact recordTells_law1 r hr b hb
theorem recordOnce_pure (xs : List V) (h : wfAs [(false, [.s])] xs) : call 3 xs [] = some (vb true, []) := by
  simp only [wfAs, wfA] at h
  obtain ⟨_, _, rfl, ⟨d, rfl, hd⟩, rfl⟩ := h
  simp only [wfRow, wfT] at hd
  obtain ⟨_, _, e1, ⟨b, rfl, hb⟩, rfl⟩ := hd
  cases e1
  exact recordOnce_law1 b hb
end Go.Proofs.Ytnkmkphdgebkgaa
