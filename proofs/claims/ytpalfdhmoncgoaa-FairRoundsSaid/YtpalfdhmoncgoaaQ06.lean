import Derived.Test.YtpalfdhmoncgoaaQ05
set_option linter.unusedSimpArgs false
set_option linter.unusedVariables false
namespace Go.Proofs.Ytpalfdhmoncgoaa
open Go.Vi
set_option linter.unusedSimpArgs false

/-! ### the example -/
def kz : Kn := ⟨0, 0, 0, 0, 0, 0, 0, 0, 0, 0, 0, 0⟩
theorem kz_ok : kz.ok := by unfold Kn.ok kz; decide
theorem awake28_spec : call 7 [] [] = some (vb true, []) := by
  apply enterS s7 rfl
  have h1 := conf_spec kz kz_ok
  have h2 := round_spec (confF kz) 1 rfl (by omega) [] (by decide) (fun p hp => by cases hp)
  have e : roundF 1 [] = [⟨9, 0, 0⟩, ⟨5, 0, 0⟩] := by rfl
  rw [e] at h2
  obtain ⟨C, hC⟩ : ∃ C, C = (confF kz).enc.map L.d := ⟨_, rfl⟩
  rw [← hC] at h1 h2
  simp only [kz, Kn.enc, List.map_cons, List.map_nil, Opn.enc] at h1 h2
  have hcd : C = [.d (.i .i64 1), .d (.i .i64 20), .d (.i .i64 0), .d (.i .i64 1), .d (.i .i64 100), .d (.i .i64 1), .d (.i .i64 100), .d (.i .i64 0), .d (.i .i64 16), .d (.i .i64 1), .d (.i .i64 1), .d (.i .i64 1), .d (.i .i64 1), .d (.i .i64 1), .d (.i .i64 1099511627776)] := by rw [hC]; rfl
  rw [hcd] at h1 h2
  (simp (disch := first | decide | omega | (intros; exact Eq.trans rfl rfl) | (simp only [puri]; done)) only [a7, h1, h2, vis, visL, visB, fillR, rowsAt, toDs, toD, ↓ops_cons, ↓ops_consz, fzTs, fzLs, rg, rd, o, oz, kc, kb, ks, kx, on, og, od, ogd, A.run, evI, evOpt, evs, evP, argF, V.cs, binD, fzV, fzL, fzVs, dataVs, dataLs, V.data, L.data, unD, fillL, List.take_succ_cons, List.take_zero, List.drop_succ_cons, List.drop_zero, List.cons_append, ne_eq, Nat.reduceLT, Nat.reduceBEq, ↓reduceIte, Nat.reduceEqDiff, Nat.reduceAdd, Nat.reduceMul, Nat.reduceSub, Int.reduceToNat, Nat.reduceLeDiff, Int.reduceNeg, Int.reduceEq, Int.reduceLT, Int.reduceLE, Int.reduceBEq, Int.reduceBNe, Int.reduceToNat, dis])
  try simp [trim]
set_option maxRecDepth 20000 in
set_option maxHeartbeats 2000000 in
theorem fairRounds_law1 (k : Kn) (hk : k.ok) (by_ : List Int) (hl : by_.length ≤ 9223372036854775807) (hb : ∀ n ∈ by_, 0 ≤ n ∧ n < 256) :
    call 3 [.agg (k.enc.map .d), vl (by_.map encB)] [] = some (vb true, []) := by
  apply enterS s3 rfl
  have haw := awake28_spec
  have h1 := conf_spec k hk
  obtain ⟨nodes, hn, hn1⟩ : ∃ nodes : Nat, (confF k).nodes = nodes ∧ 1 ≤ nodes ∧ nodes ≤ 8 := by
    have : (confF k).nodes = 1 + k.k0 % 4 := rfl
    refine ⟨(1 + k.k0 % 4).toNat, by rw [this]; omega, by omega, by omega⟩
  have h2 := picks_spec by_ hl hb
  obtain ⟨ps, hps⟩ : ∃ ps, ps = by_.take 30 := ⟨_, rfl⟩
  rw [← hps] at h2
  have hpl : ps.length ≤ 30 := by rw [hps]; simp; omega
  have hp0 : ∀ p ∈ ps, 0 ≤ p ∧ p < 256 := fun p hp => hb p (by rw [hps] at hp; exact List.mem_of_mem_take hp)
  have h3 := round_spec (confF k) nodes hn hn1 ps (by omega) hp0
  have hcnt := round_counts nodes ps
  have hmem := round_mem nodes hn1.2 ps
  have hlen := round_len nodes ps
  generalize roundF nodes ps = Ls at *
  generalize confF k = cf at *
  obtain ⟨c0, c1, c2, c3, c4, c5, c6, c7, c8, c9, c10, c11, c12, c13, c14⟩ := cf
  simp only at hn
  subst hn
  obtain ⟨k0, k1, k2, k3, k4, k5, k6, k7, k8, k9, k10, k11⟩ := k
  simp only [Kn.enc, Cf.enc, List.map_cons, List.map_nil] at h1 h3 ⊢
  have htl := TL_zero
  simp only [List.replicate_succ, List.replicate_zero] at htl
  (simp (disch := first | decide | omega | (intros; exact Eq.trans rfl rfl) | (simp only [puri]; done)) only [a3, h1, h2, h3, htl, vis, visL, visB, fillR, rowsAt, toDs, toD, ↓ops_cons, ↓ops_consz, fzTs, fzLs, rg, rd, o, oz, kc, kb, ks, kx, on, og, od, ogd, A.run, evI, evOpt, evs, evP, argF, V.cs, binD, fzV, fzL, fzVs, dataVs, dataLs, V.data, L.data, unD, fillL, List.take_succ_cons, List.take_zero, List.drop_succ_cons, List.drop_zero, List.cons_append, ne_eq, Nat.reduceLT, Nat.reduceBEq, ↓reduceIte, Nat.reduceEqDiff, Nat.reduceAdd, Nat.reduceMul, Nat.reduceSub, Int.reduceToNat, Nat.reduceLeDiff, Int.reduceNeg, Int.reduceEq, Int.reduceLT, Int.reduceLE, Int.reduceBEq, Int.reduceBNe, Int.reduceToNat, dis])
  have cs : ∀ (f : Opn → Bool) (i : Nat) (h : i < Ls.length), (Ls.take (i + 1)).countP f = (Ls.take i).countP f + (if f Ls[i] then 1 else 0) := fun f i h => by
    rw [List.take_succ_eq_append_getElem h, List.countP_append]; simp [List.countP_cons]
  refine loop_boxM (m := 0) (σ := Nat) (fun i => Ls.length - i) (fun i => i ≤ Ls.length)
    (fun i => [V.one (.p 0 0), vl (Ls.map Opn.enc), V.one (.p 1 0), V.one (.p 2 0), vi ((Ls.take i).countP isK : Nat), vi i])
    (fun i => [.cells [.d (.i .i64 nodes), .d (.i .i64 c1), .d (.i .i64 c2), .d (.i .i64 c3), .d (.i .i64 c4), .d (.i .i64 c5), .d (.i .i64 c6), .d (.i .i64 c7), .d (.i .i64 c8), .d (.i .i64 c9), .d (.i .i64 c10), .d (.i .i64 c11), .d (.i .i64 c12), .d (.i .i64 c13), .d (.i .i64 c14)],
      .cells (TL fun j => ((Ls.take i).countP (isT j) : Nat)), .cells (TL fun j => ((Ls.take i).countP (isM j) : Nat))]) (fun _ => (vb true, [])) ?_ 0 (Nat.zero_le _) _ _ ?_
  rotate_left
  · simp only [List.take_zero, List.countP_nil]; exact (at_headM (by decide) (by simp only [List.map_cons, List.map_nil, vis, visL, visB, fillR, rowsAt, toDs, toD, ↓ops_cons, ↓ops_consz, fzTs, fzLs, rg, rd, o, oz, kc, kb, ks, kx, on, og, od, ogd, A.run, evI, evOpt, evs, evP, argF, V.cs, binD, fzV, fzL, fzVs, dataVs, dataLs, V.data, L.data, unD, fillL, List.take_succ_cons, List.take_zero, List.drop_succ_cons, List.drop_zero, List.cons_append, ne_eq, Nat.reduceLT, Nat.reduceBEq, ↓reduceIte, Nat.reduceEqDiff, Nat.reduceAdd, Nat.reduceMul, Nat.reduceSub, Int.reduceToNat, Nat.reduceLeDiff, Int.reduceNeg, Int.reduceEq, Int.reduceLT, Int.reduceLE, Int.reduceBEq, Int.reduceBNe, Int.reduceToNat]; exact rfl) (by rfl) (by rfl) (by rfl))
  intro i hi R hR
  by_cases hL : i < Ls.length
  · have g1 : (Ls.map Opn.enc)[i]? = some Ls[i].enc := by simp [hL]
    have hcl : ∀ f : Opn → Bool, (Ls.take i).countP f ≤ 100 := fun f => Nat.le_trans List.countP_le_length (by simp; omega)
    have hkl := hcl isK
    have hR' := hR (i + 1) (by omega) (by omega)
    simp only [cs _ i hL] at hR'
    rcases hmem _ (List.getElem_mem hL) with h | ⟨h, j, hj, hq⟩ | ⟨h, j, hj, hq⟩
    · have e1 : ∀ j, isT j Ls[i] = false := fun j => by simp [isT, h]
      have e2 : ∀ j, isM j Ls[i] = false := fun j => by simp [isM, h]
      have e3 : isK Ls[i] = true := by simp [isK, h]
      simp only [e1, e2, e3, Bool.false_eq_true, ↓reduceIte, Nat.add_zero] at hR'
      (simp (disch := first | decide | omega | (intros; exact Eq.trans rfl rfl) | (simp only [puri]; done)) only [a3_0, g1, Opn.len, Opn.at0, h, vis, visL, visB, fillR, rowsAt, toDs, toD, ↓ops_cons, ↓ops_consz, fzTs, fzLs, rg, rd, o, oz, kc, kb, ks, kx, on, og, od, ogd, A.run, evI, evOpt, evs, evP, argF, V.cs, binD, fzV, fzL, fzVs, dataVs, dataLs, V.data, L.data, unD, fillL, List.take_succ_cons, List.take_zero, List.drop_succ_cons, List.drop_zero, List.cons_append, ne_eq, Nat.reduceLT, Nat.reduceBEq, ↓reduceIte, Nat.reduceEqDiff, Nat.reduceAdd, Nat.reduceMul, Nat.reduceSub, Int.reduceToNat, Nat.reduceLeDiff, Int.reduceNeg, Int.reduceEq, Int.reduceLT, Int.reduceLE, Int.reduceBEq, Int.reduceBNe, Int.reduceToNat, dis])
      exact hR' _ _ (at_headM (by decide) (by simp only [List.map_cons, List.map_nil, vis, visL, visB, fillR, rowsAt, toDs, toD, ↓ops_cons, ↓ops_consz, fzTs, fzLs, rg, rd, o, oz, kc, kb, ks, kx, on, og, od, ogd, A.run, evI, evOpt, evs, evP, argF, V.cs, binD, fzV, fzL, fzVs, dataVs, dataLs, V.data, L.data, unD, fillL, List.take_succ_cons, List.take_zero, List.drop_succ_cons, List.drop_zero, List.cons_append, ne_eq, Nat.reduceLT, Nat.reduceBEq, ↓reduceIte, Nat.reduceEqDiff, Nat.reduceAdd, Nat.reduceMul, Nat.reduceSub, Int.reduceToNat, Nat.reduceLeDiff, Int.reduceNeg, Int.reduceEq, Int.reduceLT, Int.reduceLE, Int.reduceBEq, Int.reduceBNe, Int.reduceToNat]; exact rfl) (by rfl) (by rfl) (by rfl))
    · have e1 : ∀ j', isT j' Ls[i] = decide (j = j') := fun j' => by rw [Bool.eq_iff_iff]; simp [isT, h, hq]; omega
      have e2 : ∀ j, isM j Ls[i] = false := fun j => by simp [isM, h]
      have e3 : isK Ls[i] = false := by simp [isK, h]
      have hjl := hcl (isT j)
      obtain ⟨cf, hcf⟩ : ∃ cf : Nat → Int, cf = fun j => (((Ls.take i).countP (isT j) : Nat) : Int) := ⟨_, rfl⟩
      have hfun : (fun j' : Nat => if j' = j then cf j + 1 else cf j') = fun j' => ((((Ls.take i).countP (isT j') + (if isT j' Ls[i] then 1 else 0) : Nat)) : Int) := by
        funext j'
        rw [e1, hcf]
        by_cases hjj : j' = j
        · subst hjj; simp
        · have : ¬ j = j' := fun h => hjj h.symm
          simp [hjj, this]
      have hcb : 0 ≤ cf j ∧ cf j ≤ 100 := by rw [hcf]; simp only []; omega
      rw [← hfun] at hR'
      rw [← hcf]
      clear hfun hcf
      simp only [e2, e3, Bool.false_eq_true, ↓reduceIte, Nat.add_zero] at hR'
      have g2 := TL_get cf j hj
      have g3 := TL_set cf j (cf j + 1) hj
      have g4 := TL_len cf
      (simp (disch := first | decide | omega | (intros; exact Eq.trans rfl rfl) | (simp only [puri]; done)) only [a3_0, g1, Opn.len, Opn.at0, Opn.at1, h, hq, g2, g3, g4, Nat.mul_one, Nat.zero_add, vis, visL, visB, fillR, rowsAt, toDs, toD, ↓ops_cons, ↓ops_consz, fzTs, fzLs, rg, rd, o, oz, kc, kb, ks, kx, on, og, od, ogd, A.run, evI, evOpt, evs, evP, argF, V.cs, binD, fzV, fzL, fzVs, dataVs, dataLs, V.data, L.data, unD, fillL, List.take_succ_cons, List.take_zero, List.drop_succ_cons, List.drop_zero, List.cons_append, ne_eq, Nat.reduceLT, Nat.reduceBEq, ↓reduceIte, Nat.reduceEqDiff, Nat.reduceAdd, Nat.reduceMul, Nat.reduceSub, Int.reduceToNat, Nat.reduceLeDiff, Int.reduceNeg, Int.reduceEq, Int.reduceLT, Int.reduceLE, Int.reduceBEq, Int.reduceBNe, Int.reduceToNat, dis])
      exact hR' _ _ (at_headM (by decide) (by simp only [List.map_cons, List.map_nil, vis, visL, visB, fillR, rowsAt, toDs, toD, ↓ops_cons, ↓ops_consz, fzTs, fzLs, rg, rd, o, oz, kc, kb, ks, kx, on, og, od, ogd, A.run, evI, evOpt, evs, evP, argF, V.cs, binD, fzV, fzL, fzVs, dataVs, dataLs, V.data, L.data, unD, fillL, List.take_succ_cons, List.take_zero, List.drop_succ_cons, List.drop_zero, List.cons_append, ne_eq, Nat.reduceLT, Nat.reduceBEq, ↓reduceIte, Nat.reduceEqDiff, Nat.reduceAdd, Nat.reduceMul, Nat.reduceSub, Int.reduceToNat, Nat.reduceLeDiff, Int.reduceNeg, Int.reduceEq, Int.reduceLT, Int.reduceLE, Int.reduceBEq, Int.reduceBNe, Int.reduceToNat]; exact rfl) (by rfl) (by rfl) (by rfl))
    · have e1 : ∀ j, isT j Ls[i] = false := fun j => by simp [isT, h]
      have e2 : ∀ j', isM j' Ls[i] = decide (j = j') := fun j' => by rw [Bool.eq_iff_iff]; simp [isM, h, hq]; omega
      have e3 : isK Ls[i] = false := by simp [isK, h]
      have hjl := hcl (isM j)
      obtain ⟨cf, hcf⟩ : ∃ cf : Nat → Int, cf = fun j => (((Ls.take i).countP (isM j) : Nat) : Int) := ⟨_, rfl⟩
      have hfun : (fun j' : Nat => if j' = j then cf j + 1 else cf j') = fun j' => ((((Ls.take i).countP (isM j') + (if isM j' Ls[i] then 1 else 0) : Nat)) : Int) := by
        funext j'
        rw [e2, hcf]
        by_cases hjj : j' = j
        · subst hjj; simp
        · have : ¬ j = j' := fun h => hjj h.symm
          simp [hjj, this]
      have hcb : 0 ≤ cf j ∧ cf j ≤ 100 := by rw [hcf]; simp only []; omega
      rw [← hfun] at hR'
      rw [← hcf]
      clear hfun hcf
      simp only [e1, e3, Bool.false_eq_true, ↓reduceIte, Nat.add_zero] at hR'
      have g2 := TL_get cf j hj
      have g3 := TL_set cf j (cf j + 1) hj
      have g4 := TL_len cf
      (simp (disch := first | decide | omega | (intros; exact Eq.trans rfl rfl) | (simp only [puri]; done)) only [a3_0, g1, Opn.len, Opn.at0, Opn.at2, Opn.at3, h, hq, g2, g3, g4, Nat.mul_one, Nat.zero_add, vis, visL, visB, fillR, rowsAt, toDs, toD, ↓ops_cons, ↓ops_consz, fzTs, fzLs, rg, rd, o, oz, kc, kb, ks, kx, on, og, od, ogd, A.run, evI, evOpt, evs, evP, argF, V.cs, binD, fzV, fzL, fzVs, dataVs, dataLs, V.data, L.data, unD, fillL, List.take_succ_cons, List.take_zero, List.drop_succ_cons, List.drop_zero, List.cons_append, ne_eq, Nat.reduceLT, Nat.reduceBEq, ↓reduceIte, Nat.reduceEqDiff, Nat.reduceAdd, Nat.reduceMul, Nat.reduceSub, Int.reduceToNat, Nat.reduceLeDiff, Int.reduceNeg, Int.reduceEq, Int.reduceLT, Int.reduceLE, Int.reduceBEq, Int.reduceBNe, Int.reduceToNat, dis])
      exact hR' _ _ (at_headM (by decide) (by simp only [List.map_cons, List.map_nil, vis, visL, visB, fillR, rowsAt, toDs, toD, ↓ops_cons, ↓ops_consz, fzTs, fzLs, rg, rd, o, oz, kc, kb, ks, kx, on, og, od, ogd, A.run, evI, evOpt, evs, evP, argF, V.cs, binD, fzV, fzL, fzVs, dataVs, dataLs, V.data, L.data, unD, fillL, List.take_succ_cons, List.take_zero, List.drop_succ_cons, List.drop_zero, List.cons_append, ne_eq, Nat.reduceLT, Nat.reduceBEq, ↓reduceIte, Nat.reduceEqDiff, Nat.reduceAdd, Nat.reduceMul, Nat.reduceSub, Int.reduceToNat, Nat.reduceLeDiff, Int.reduceNeg, Int.reduceEq, Int.reduceLT, Int.reduceLE, Int.reduceBEq, Int.reduceBNe, Int.reduceToNat]; exact rfl) (by rfl) (by rfl) (by rfl))
  · have hin : i = Ls.length := by omega
    subst hin
    rw [List.take_length]
    obtain ⟨cf, hcf⟩ : ∃ cf : Nat → Int, cf = fun j => ((Ls.countP (isT j) : Nat) : Int) := ⟨_, rfl⟩
    obtain ⟨df, hdf⟩ : ∃ df : Nat → Int, df = fun j => ((Ls.countP (isM j) : Nat) : Int) := ⟨_, rfl⟩
    have hc1 : ∀ j, cf j = if j < nodes then 1 else 0 := fun j => by rw [hcf]; simp only [(hcnt j).1]; split <;> rfl
    have hd1 : ∀ j, df j = if j < 2 * nodes - 2 then 1 else 0 := fun j => by rw [hdf]; simp only [(hcnt j).2.1]; split <;> rfl
    have hk1 : Ls.countP isK = 1 := (hcnt 0).2.2
    rw [← hcf, ← hdf, hk1]
    (simp (disch := first | decide | omega | (intros; exact Eq.trans rfl rfl) | (simp only [puri]; done)) only [a3_0, vis, visL, visB, fillR, rowsAt, toDs, toD, ↓ops_cons, ↓ops_consz, fzTs, fzLs, rg, rd, o, oz, kc, kb, ks, kx, on, og, od, ogd, A.run, evI, evOpt, evs, evP, argF, V.cs, binD, fzV, fzL, fzVs, dataVs, dataLs, V.data, L.data, unD, fillL, List.take_succ_cons, List.take_zero, List.drop_succ_cons, List.drop_zero, List.cons_append, ne_eq, Nat.reduceLT, Nat.reduceBEq, ↓reduceIte, Nat.reduceEqDiff, Nat.reduceAdd, Nat.reduceMul, Nat.reduceSub, Int.reduceToNat, Nat.reduceLeDiff, Int.reduceNeg, Int.reduceEq, Int.reduceLT, Int.reduceLE, Int.reduceBEq, Int.reduceBNe, Int.reduceToNat, dis])
    refine loop_boxM (m := 0) (σ := Nat) (fun i => 20 - i) (fun i => i ≤ 20)
      (fun i => [V.one (.p 0 0), V.one (.p 1 0), V.one (.p 2 0), vi (1 : Nat), vi i])
      (fun i => [.cells [.d (.i .i64 nodes), .d (.i .i64 c1), .d (.i .i64 c2), .d (.i .i64 c3), .d (.i .i64 c4), .d (.i .i64 c5), .d (.i .i64 c6), .d (.i .i64 c7), .d (.i .i64 c8), .d (.i .i64 c9), .d (.i .i64 c10), .d (.i .i64 c11), .d (.i .i64 c12), .d (.i .i64 c13), .d (.i .i64 c14)],
        .cells (TL cf), .cells (TL df)]) (fun _ => (vb true, [])) ?_ 0 (Nat.zero_le _) _ _ ?_
    rotate_left
    · exact (at_headM (by decide) (by simp only [List.map_cons, List.map_nil, vis, visL, visB, fillR, rowsAt, toDs, toD, ↓ops_cons, ↓ops_consz, fzTs, fzLs, rg, rd, o, oz, kc, kb, ks, kx, on, og, od, ogd, A.run, evI, evOpt, evs, evP, argF, V.cs, binD, fzV, fzL, fzVs, dataVs, dataLs, V.data, L.data, unD, fillL, List.take_succ_cons, List.take_zero, List.drop_succ_cons, List.drop_zero, List.cons_append, ne_eq, Nat.reduceLT, Nat.reduceBEq, ↓reduceIte, Nat.reduceEqDiff, Nat.reduceAdd, Nat.reduceMul, Nat.reduceSub, Int.reduceToNat, Nat.reduceLeDiff, Int.reduceNeg, Int.reduceEq, Int.reduceLT, Int.reduceLE, Int.reduceBEq, Int.reduceBNe, Int.reduceToNat]; exact rfl) (by rfl) (by rfl) (by rfl))
    intro j hj R2 hR2
    by_cases hj2 : j < 20
    · have g2 := TL_get cf j hj2
      have g3 := TL_get df j hj2
      have w1 : IntKind.i64.wrap (2 * (nodes : Int)) = 2 * (nodes : Int) := wrap_i (by omega)
      have w2 : IntKind.i64.wrap (2 * (nodes : Int) - 2) = 2 * (nodes : Int) - 2 := wrap_i (by omega)
      have hR' := hR2 (j + 1) (by omega) (by omega)
      by_cases a1 : j < nodes
      · have b1 : cf j = 1 := by rw [hc1, if_pos a1]
        by_cases a2 : j < 2 * nodes - 2
        · have b2 : df j = 1 := by rw [hd1, if_pos a2]
          have a3 : (j : Int) < 2 * (nodes : Int) - 2 := by omega
          rw [b1] at g2; rw [b2] at g3
          (simp (disch := first | decide | omega | (intros; exact Eq.trans rfl rfl) | (simp only [puri]; done)) only [a3_1, hj2, g2, g3, w1, w2, a1, a3, Nat.mul_one, Nat.zero_add, bne_self_eq_false, beq_self_eq_true, vis, visL, visB, fillR, rowsAt, toDs, toD, ↓ops_cons, ↓ops_consz, fzTs, fzLs, rg, rd, o, oz, kc, kb, ks, kx, on, og, od, ogd, A.run, evI, evOpt, evs, evP, argF, V.cs, binD, fzV, fzL, fzVs, dataVs, dataLs, V.data, L.data, unD, fillL, List.take_succ_cons, List.take_zero, List.drop_succ_cons, List.drop_zero, List.cons_append, ne_eq, Nat.reduceLT, Nat.reduceBEq, ↓reduceIte, Nat.reduceEqDiff, Nat.reduceAdd, Nat.reduceMul, Nat.reduceSub, Int.reduceToNat, Nat.reduceLeDiff, Int.reduceNeg, Int.reduceEq, Int.reduceLT, Int.reduceLE, Int.reduceBEq, Int.reduceBNe, Int.reduceToNat, dis])
          exact hR' _ _ (at_headM (by decide) (by simp only [List.map_cons, List.map_nil, vis, visL, visB, fillR, rowsAt, toDs, toD, ↓ops_cons, ↓ops_consz, fzTs, fzLs, rg, rd, o, oz, kc, kb, ks, kx, on, og, od, ogd, A.run, evI, evOpt, evs, evP, argF, V.cs, binD, fzV, fzL, fzVs, dataVs, dataLs, V.data, L.data, unD, fillL, List.take_succ_cons, List.take_zero, List.drop_succ_cons, List.drop_zero, List.cons_append, ne_eq, Nat.reduceLT, Nat.reduceBEq, ↓reduceIte, Nat.reduceEqDiff, Nat.reduceAdd, Nat.reduceMul, Nat.reduceSub, Int.reduceToNat, Nat.reduceLeDiff, Int.reduceNeg, Int.reduceEq, Int.reduceLT, Int.reduceLE, Int.reduceBEq, Int.reduceBNe, Int.reduceToNat]; exact rfl) (by rfl) (by rfl) (by rfl))
        · have b2 : df j = 0 := by rw [hd1, if_neg a2]
          have a3 : ¬ (j : Int) < 2 * (nodes : Int) - 2 := by omega
          rw [b1] at g2; rw [b2] at g3
          (simp (disch := first | decide | omega | (intros; exact Eq.trans rfl rfl) | (simp only [puri]; done)) only [a3_1, hj2, g2, g3, w1, w2, a1, a3, Nat.mul_one, Nat.zero_add, bne_self_eq_false, beq_self_eq_true, vis, visL, visB, fillR, rowsAt, toDs, toD, ↓ops_cons, ↓ops_consz, fzTs, fzLs, rg, rd, o, oz, kc, kb, ks, kx, on, og, od, ogd, A.run, evI, evOpt, evs, evP, argF, V.cs, binD, fzV, fzL, fzVs, dataVs, dataLs, V.data, L.data, unD, fillL, List.take_succ_cons, List.take_zero, List.drop_succ_cons, List.drop_zero, List.cons_append, ne_eq, Nat.reduceLT, Nat.reduceBEq, ↓reduceIte, Nat.reduceEqDiff, Nat.reduceAdd, Nat.reduceMul, Nat.reduceSub, Int.reduceToNat, Nat.reduceLeDiff, Int.reduceNeg, Int.reduceEq, Int.reduceLT, Int.reduceLE, Int.reduceBEq, Int.reduceBNe, Int.reduceToNat, dis])
          exact hR' _ _ (at_headM (by decide) (by simp only [List.map_cons, List.map_nil, vis, visL, visB, fillR, rowsAt, toDs, toD, ↓ops_cons, ↓ops_consz, fzTs, fzLs, rg, rd, o, oz, kc, kb, ks, kx, on, og, od, ogd, A.run, evI, evOpt, evs, evP, argF, V.cs, binD, fzV, fzL, fzVs, dataVs, dataLs, V.data, L.data, unD, fillL, List.take_succ_cons, List.take_zero, List.drop_succ_cons, List.drop_zero, List.cons_append, ne_eq, Nat.reduceLT, Nat.reduceBEq, ↓reduceIte, Nat.reduceEqDiff, Nat.reduceAdd, Nat.reduceMul, Nat.reduceSub, Int.reduceToNat, Nat.reduceLeDiff, Int.reduceNeg, Int.reduceEq, Int.reduceLT, Int.reduceLE, Int.reduceBEq, Int.reduceBNe, Int.reduceToNat]; exact rfl) (by rfl) (by rfl) (by rfl))
      · have b1 : cf j = 0 := by rw [hc1, if_neg a1]
        by_cases a2 : j < 2 * nodes - 2
        · have b2 : df j = 1 := by rw [hd1, if_pos a2]
          have a3 : (j : Int) < 2 * (nodes : Int) - 2 := by omega
          rw [b1] at g2; rw [b2] at g3
          (simp (disch := first | decide | omega | (intros; exact Eq.trans rfl rfl) | (simp only [puri]; done)) only [a3_1, hj2, g2, g3, w1, w2, a1, a3, Nat.mul_one, Nat.zero_add, bne_self_eq_false, beq_self_eq_true, vis, visL, visB, fillR, rowsAt, toDs, toD, ↓ops_cons, ↓ops_consz, fzTs, fzLs, rg, rd, o, oz, kc, kb, ks, kx, on, og, od, ogd, A.run, evI, evOpt, evs, evP, argF, V.cs, binD, fzV, fzL, fzVs, dataVs, dataLs, V.data, L.data, unD, fillL, List.take_succ_cons, List.take_zero, List.drop_succ_cons, List.drop_zero, List.cons_append, ne_eq, Nat.reduceLT, Nat.reduceBEq, ↓reduceIte, Nat.reduceEqDiff, Nat.reduceAdd, Nat.reduceMul, Nat.reduceSub, Int.reduceToNat, Nat.reduceLeDiff, Int.reduceNeg, Int.reduceEq, Int.reduceLT, Int.reduceLE, Int.reduceBEq, Int.reduceBNe, Int.reduceToNat, dis])
          exact hR' _ _ (at_headM (by decide) (by simp only [List.map_cons, List.map_nil, vis, visL, visB, fillR, rowsAt, toDs, toD, ↓ops_cons, ↓ops_consz, fzTs, fzLs, rg, rd, o, oz, kc, kb, ks, kx, on, og, od, ogd, A.run, evI, evOpt, evs, evP, argF, V.cs, binD, fzV, fzL, fzVs, dataVs, dataLs, V.data, L.data, unD, fillL, List.take_succ_cons, List.take_zero, List.drop_succ_cons, List.drop_zero, List.cons_append, ne_eq, Nat.reduceLT, Nat.reduceBEq, ↓reduceIte, Nat.reduceEqDiff, Nat.reduceAdd, Nat.reduceMul, Nat.reduceSub, Int.reduceToNat, Nat.reduceLeDiff, Int.reduceNeg, Int.reduceEq, Int.reduceLT, Int.reduceLE, Int.reduceBEq, Int.reduceBNe, Int.reduceToNat]; exact rfl) (by rfl) (by rfl) (by rfl))
        · have b2 : df j = 0 := by rw [hd1, if_neg a2]
          have a3 : ¬ (j : Int) < 2 * (nodes : Int) - 2 := by omega
          rw [b1] at g2; rw [b2] at g3
          (simp (disch := first | decide | omega | (intros; exact Eq.trans rfl rfl) | (simp only [puri]; done)) only [a3_1, hj2, g2, g3, w1, w2, a1, a3, Nat.mul_one, Nat.zero_add, bne_self_eq_false, beq_self_eq_true, vis, visL, visB, fillR, rowsAt, toDs, toD, ↓ops_cons, ↓ops_consz, fzTs, fzLs, rg, rd, o, oz, kc, kb, ks, kx, on, og, od, ogd, A.run, evI, evOpt, evs, evP, argF, V.cs, binD, fzV, fzL, fzVs, dataVs, dataLs, V.data, L.data, unD, fillL, List.take_succ_cons, List.take_zero, List.drop_succ_cons, List.drop_zero, List.cons_append, ne_eq, Nat.reduceLT, Nat.reduceBEq, ↓reduceIte, Nat.reduceEqDiff, Nat.reduceAdd, Nat.reduceMul, Nat.reduceSub, Int.reduceToNat, Nat.reduceLeDiff, Int.reduceNeg, Int.reduceEq, Int.reduceLT, Int.reduceLE, Int.reduceBEq, Int.reduceBNe, Int.reduceToNat, dis])
          exact hR' _ _ (at_headM (by decide) (by simp only [List.map_cons, List.map_nil, vis, visL, visB, fillR, rowsAt, toDs, toD, ↓ops_cons, ↓ops_consz, fzTs, fzLs, rg, rd, o, oz, kc, kb, ks, kx, on, og, od, ogd, A.run, evI, evOpt, evs, evP, argF, V.cs, binD, fzV, fzL, fzVs, dataVs, dataLs, V.data, L.data, unD, fillL, List.take_succ_cons, List.take_zero, List.drop_succ_cons, List.drop_zero, List.cons_append, ne_eq, Nat.reduceLT, Nat.reduceBEq, ↓reduceIte, Nat.reduceEqDiff, Nat.reduceAdd, Nat.reduceMul, Nat.reduceSub, Int.reduceToNat, Nat.reduceLeDiff, Int.reduceNeg, Int.reduceEq, Int.reduceLT, Int.reduceLE, Int.reduceBEq, Int.reduceBNe, Int.reduceToNat]; exact rfl) (by rfl) (by rfl) (by rfl))
    · have e1 : ((1 : Nat) : Int) = 1 := rfl
      (simp (disch := first | decide | omega | (intros; exact Eq.trans rfl rfl) | (simp only [puri]; done)) only [a3_1, hj2, haw, e1, vis, visL, visB, fillR, rowsAt, toDs, toD, ↓ops_cons, ↓ops_consz, fzTs, fzLs, rg, rd, o, oz, kc, kb, ks, kx, on, og, od, ogd, A.run, evI, evOpt, evs, evP, argF, V.cs, binD, fzV, fzL, fzVs, dataVs, dataLs, V.data, L.data, unD, fillL, List.take_succ_cons, List.take_zero, List.drop_succ_cons, List.drop_zero, List.cons_append, ne_eq, Nat.reduceLT, Nat.reduceBEq, ↓reduceIte, Nat.reduceEqDiff, Nat.reduceAdd, Nat.reduceMul, Nat.reduceSub, Int.reduceToNat, Nat.reduceLeDiff, Int.reduceNeg, Int.reduceEq, Int.reduceLT, Int.reduceLE, Int.reduceBEq, Int.reduceBNe, Int.reduceToNat, dis])
      try simp [trim]
theorem encB_of (r : List D) (h : wfRow [.i .u8] r) : ∃ n : Int, r = encB n ∧ 0 ≤ n ∧ n < 256 := by
  simp only [wfRow, wfT] at h
  obtain ⟨_, _, rfl, ⟨n, rfl, h1, h2⟩, rfl⟩ := h
  exact ⟨n, rfl, Int.le_trans (by decide) h1, Int.lt_of_le_of_lt h2 (by decide)⟩
theorem fairRounds_pure (xs : List V) (h : wfAs [(true, [.i .u8, .i .u8, .i .u8, .i .u8, .i .u8, .i .u8, .i .u8, .i .u8, .i .u8, .i .u8, .i .u8, .i .u8]), (false, [.l [.i .u8]])] xs) : call 3 xs [] = some (vb true, []) := by
  simp only [wfAs, wfA] at h
  obtain ⟨_, _, rfl, ⟨d, rfl, hd⟩, _, _, rfl, ⟨e, rfl, he⟩, rfl⟩ := h
  obtain ⟨k, rfl, hk⟩ := Kn.of d hd
  simp only [wfRow, wfT] at he
  obtain ⟨_, _, e1, ⟨rows, rfl, hl, hr⟩, rfl⟩ := he
  cases e1
  obtain ⟨l, rfl, ha⟩ := rows_map encB_of rows hr
  exact fairRounds_law1 k hk l (by simpa using hl) ha
end Go.Proofs.Ytpalfdhmoncgoaa
