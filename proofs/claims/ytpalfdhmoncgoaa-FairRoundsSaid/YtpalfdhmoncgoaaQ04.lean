import Derived.Test.YtpalfdhmoncgoaaQ03
set_option linter.unusedSimpArgs false
set_option linter.unusedVariables false
namespace Go.Proofs.Ytpalfdhmoncgoaa
open Go.Vi
set_option linter.unusedSimpArgs false

/-! ### a round -/
structure Opn where
  kind : Int
  node : Int
  n : Int
def Opn.enc (q : Opn) : List D := [.i .i64 q.kind, .i .i64 q.node, .i .i64 q.n, .i .i64 0, .s [], .l []]
theorem Opn.len (q : Opn) : q.enc.length = 6 := Eq.trans rfl rfl
theorem Opn.at0 (q : Opn) : q.enc[0]? = some (.i .i64 q.kind) := Eq.trans rfl rfl
theorem Opn.at1 (q : Opn) : (q.enc.drop 1)[0]? = some (.i .i64 q.node) := Eq.trans rfl rfl
theorem Opn.at2 (q : Opn) : (q.enc.drop 2)[0]? = some (.i .i64 q.n) := Eq.trans rfl rfl
theorem Opn.at3 (q : Opn) : (q.enc.drop 3)[0]? = some (.i .i64 0) := Eq.trans rfl rfl
def turnO (n : Int) : Opn := ⟨5, n, 0⟩
def moveO (n : Int) : Opn := ⟨6, 0, n⟩
def roundF (nodes : Nat) (ps : List Int) : List Opn :=
  ⟨9, 0, 0⟩ :: ((ordF nodes (iota nodes) ps).1.map turnO ++ (ordF (2 * nodes - 2) (iota (2 * nodes - 2)) (ordF nodes (iota nodes) ps).2).1.map moveO)
theorem ordF_ok : ∀ (f : Nat) (rest ps : List Int), (∀ p ∈ ps, 0 ≤ p ∧ p < 256) → (ordF f rest ps).2.length ≤ ps.length ∧ ∀ p ∈ (ordF f rest ps).2, 0 ≤ p ∧ p < 256
  | 0, rest, ps, h => ⟨Nat.le_refl _, h⟩
  | f + 1, rest, ps, h => by
    unfold ordF
    split
    · exact ⟨Nat.le_refl _, h⟩
    · have ih := ordF_ok f (rest.eraseIdx (pk ps rest.length)) ps.tail (fun p hp => h p (List.mem_of_mem_tail hp))
      exact ⟨Nat.le_trans ih.1 (by simp), ih.2⟩
set_option maxRecDepth 20000 in
set_option maxHeartbeats 1000000 in
theorem round_spec (c : Cf) (nodes : Nat) (hc : c.nodes = nodes) (hn : 1 ≤ nodes ∧ nodes ≤ 8) (ps : List Int) (hps : ps.length ≤ 1000) (hp0 : ∀ p ∈ ps, 0 ≤ p ∧ p < 256) :
    call 5 [.agg (c.enc.map .d), vl (ps.map encI)] [] = some (vl ((roundF nodes ps).map Opn.enc), []) := by
  apply enterS s5 rfl
  obtain ⟨Z, hZ⟩ : ∃ Z : V × Hp, Z = (vl ((roundF nodes ps).map Opn.enc), []) := ⟨_, rfl⟩
  rw [← hZ]
  have o1 := order_spec nodes (by omega) ps (by omega) hp0
  have k1 := ordF_ok nodes (iota nodes) ps hp0
  have o2 := order_spec (2 * nodes - 2) (by omega) (ordF nodes (iota nodes) ps).2 (by omega) k1.2
  have l1 := (ordF_perm nodes (iota nodes) ps (by simp [iota])).length_eq
  have l2 := (ordF_perm (2 * nodes - 2) (iota (2 * nodes - 2)) (ordF nodes (iota nodes) ps).2 (by simp [iota])).length_eq
  simp only [iota, List.length_map, List.length_range] at l1 l2
  obtain ⟨c0, c1, c2, c3, c4, c5, c6, c7, c8, c9, c10, c11, c12, c13, c14⟩ := c
  simp only at hc
  subst hc
  unfold roundF at hZ
  simp only [iota] at hZ o1 o2
  generalize (ordF nodes ((List.range nodes).map fun (i : Nat) => (i : Int)) ps).1 = A1 at *
  generalize (ordF nodes ((List.range nodes).map fun (i : Nat) => (i : Int)) ps).2 = P1 at *
  generalize (ordF (2 * nodes - 2) ((List.range (2 * nodes - 2)).map fun (i : Nat) => (i : Int)) P1).1 = A2 at *
  generalize (ordF (2 * nodes - 2) ((List.range (2 * nodes - 2)).map fun (i : Nat) => (i : Int)) P1).2 = P2 at *
  have i1 : ∀ (B C : Box), callIso call 8 [.one (.p 1 0), .one (.d (.i .i64 (nodes : Int)))] [B, .cells [.d (.l (ps.map encI))], C] = some (vl (A1.map encI), [B, .cells [.d (.l (P1.map encI))], C]) := fun B C =>
    iso_at (ids := [1]) rfl rfl rfl o1 rfl
  (simp (disch := first | decide | omega | (intros; exact Eq.trans rfl rfl) | (simp only [puri]; done)) only [a5, Cf.enc, List.map_cons, List.map_nil, ↓i1, vis, visL, visB, fillR, rowsAt, toDs, toD, ↓ops_cons, ↓ops_consz, fzTs, fzLs, rg, rd, o, oz, kc, kb, ks, kx, on, og, od, ogd, A.run, evI, evOpt, evs, evP, argF, V.cs, binD, fzV, fzL, fzVs, dataVs, dataLs, V.data, L.data, unD, fillL, List.take_succ_cons, List.take_zero, List.drop_succ_cons, List.drop_zero, List.cons_append, ne_eq, Nat.reduceLT, Nat.reduceBEq, ↓reduceIte, Nat.reduceEqDiff, Nat.reduceAdd, Nat.reduceMul, Nat.reduceSub, Int.reduceToNat, Nat.reduceLeDiff, Int.reduceNeg, Int.reduceEq, Int.reduceLT, Int.reduceLE, Int.reduceBEq, Int.reduceBNe, Int.reduceToNat, dis])
  have i2 : ∀ (B C : Box), callIso call 8 [.one (.p 1 0), .one (.d (.i .i64 ((2 * nodes - 2 : Nat) : Int)))] [B, .cells [.d (.l (P1.map encI))], C] = some (vl (A2.map encI), [B, .cells [.d (.l (P2.map encI))], C]) := fun B C =>
    iso_at (ids := [1]) rfl rfl rfl o2 rfl
  refine loop_boxM (m := 0) (σ := Nat) (fun i => nodes - i) (fun i => i ≤ nodes) (fun i => [V.one (.p 0 0), V.one (.p 1 0), V.one (.sl 2 6 0 (i + 1)), vl (A1.map encI), vi A1.length, vi i])
    (fun i => [.cells [.d (.i .i64 nodes), .d (.i .i64 c1), .d (.i .i64 c2), .d (.i .i64 c3), .d (.i .i64 c4), .d (.i .i64 c5), .d (.i .i64 c6), .d (.i .i64 c7), .d (.i .i64 c8), .d (.i .i64 c9), .d (.i .i64 c10), .d (.i .i64 c11), .d (.i .i64 c12), .d (.i .i64 c13), .d (.i .i64 c14)], .cells [.d (.l (P1.map encI))], .arr 6 (Opn.enc ⟨9, 0, 0⟩ :: (A1.take i).map (fun n => (turnO n).enc)) 0]) (fun _ => Z) ?_ 0 (Nat.zero_le _) _ _ ?_
  rotate_left
  · exact (at_headM (by decide) (by simp only [List.map_cons, List.map_nil, vis, visL, visB, fillR, rowsAt, toDs, toD, ↓ops_cons, ↓ops_consz, fzTs, fzLs, rg, rd, o, oz, kc, kb, ks, kx, on, og, od, ogd, A.run, evI, evOpt, evs, evP, argF, V.cs, binD, fzV, fzL, fzVs, dataVs, dataLs, V.data, L.data, unD, fillL, List.take_succ_cons, List.take_zero, List.drop_succ_cons, List.drop_zero, List.cons_append, ne_eq, Nat.reduceLT, Nat.reduceBEq, ↓reduceIte, Nat.reduceEqDiff, Nat.reduceAdd, Nat.reduceMul, Nat.reduceSub, Int.reduceToNat, Nat.reduceLeDiff, Int.reduceNeg, Int.reduceEq, Int.reduceLT, Int.reduceLE, Int.reduceBEq, Int.reduceBNe, Int.reduceToNat]; exact rfl) (by rfl) (by rfl) (by rfl))
  intro i hi R hR
  by_cases h1 : i < nodes
  · have h1' : i < A1.length := by omega
    have g1 : (A1.map encI)[i]? = some (encI A1[i]) := by simp [h1']
    have ht : (A1.take (i + 1)).map (fun n => (turnO n).enc) = (A1.take i).map (fun n => (turnO n).enc) ++ [(turnO A1[i]).enc] := by rw [List.take_succ_eq_append_getElem (by omega), List.map_append]; rfl
    have hR' := hR (i + 1) (by omega) (by omega)
    rw [ht] at hR'
    have hl2 : ((A1.take i).map (fun n => (turnO n).enc)).length = i := by simp; omega
    generalize (A1.take i).map (fun n => (turnO n).enc) = q at hR' hl2 ⊢
    (simp (disch := first | decide | omega | (intros; exact Eq.trans rfl rfl) | (simp only [puri]; done)) only [a5_0, g1, encI_len, encI_at, hl2, Opn.enc, encI, vis, visL, visB, fillR, rowsAt, toDs, toD, ↓ops_cons, ↓ops_consz, fzTs, fzLs, rg, rd, o, oz, kc, kb, ks, kx, on, og, od, ogd, A.run, evI, evOpt, evs, evP, argF, V.cs, binD, fzV, fzL, fzVs, dataVs, dataLs, V.data, L.data, unD, fillL, List.take_succ_cons, List.take_zero, List.drop_succ_cons, List.drop_zero, List.cons_append, ne_eq, Nat.reduceLT, Nat.reduceBEq, ↓reduceIte, Nat.reduceEqDiff, Nat.reduceAdd, Nat.reduceMul, Nat.reduceSub, Int.reduceToNat, Nat.reduceLeDiff, Int.reduceNeg, Int.reduceEq, Int.reduceLT, Int.reduceLE, Int.reduceBEq, Int.reduceBNe, Int.reduceToNat, dis])
    exact hR' _ _ (at_headM (by decide) (by simp only [List.map_cons, List.map_nil, vis, visL, visB, fillR, rowsAt, toDs, toD, ↓ops_cons, ↓ops_consz, fzTs, fzLs, rg, rd, o, oz, kc, kb, ks, kx, on, og, od, ogd, A.run, evI, evOpt, evs, evP, argF, V.cs, binD, fzV, fzL, fzVs, dataVs, dataLs, V.data, L.data, unD, fillL, List.take_succ_cons, List.take_zero, List.drop_succ_cons, List.drop_zero, List.cons_append, ne_eq, Nat.reduceLT, Nat.reduceBEq, ↓reduceIte, Nat.reduceEqDiff, Nat.reduceAdd, Nat.reduceMul, Nat.reduceSub, Int.reduceToNat, Nat.reduceLeDiff, Int.reduceNeg, Int.reduceEq, Int.reduceLT, Int.reduceLE, Int.reduceBEq, Int.reduceBNe, Int.reduceToNat]; exact rfl) (by rfl) (by rfl) (by rfl))
  · have hin : i = nodes := by omega
    subst hin
    have htk : A1.take i = A1 := List.take_of_length_le (by omega)
    rw [htk]
    have hq : (A1.map (fun n => (turnO n).enc)).length = i := by simp [l1]
    have hmul : IntKind.i64.wrap (2 * (i : Int)) = ((2 * i : Nat) : Int) := by rw [wrap_i (by omega)]; omega
    have hsub : IntKind.i64.wrap (((2 * i : Nat) : Int) - 2) = ((2 * i - 2 : Nat) : Int) := by rw [wrap_i (by omega)]; omega
    have hZ2 : Z = (vl (Opn.enc ⟨9, 0, 0⟩ :: A1.map (fun n => (turnO n).enc) ++ A2.map (fun n => (moveO n).enc)), []) := by rw [hZ]; simp [List.map_map, Function.comp_def]
    generalize A1.map (fun n => (turnO n).enc) = q at hZ2 hq ⊢
    (simp (disch := first | decide | omega | (intros; exact Eq.trans rfl rfl) | (simp only [puri]; done)) only [a5_0, hmul, hsub, ↓i2, vis, visL, visB, fillR, rowsAt, toDs, toD, ↓ops_cons, ↓ops_consz, fzTs, fzLs, rg, rd, o, oz, kc, kb, ks, kx, on, og, od, ogd, A.run, evI, evOpt, evs, evP, argF, V.cs, binD, fzV, fzL, fzVs, dataVs, dataLs, V.data, L.data, unD, fillL, List.take_succ_cons, List.take_zero, List.drop_succ_cons, List.drop_zero, List.cons_append, ne_eq, Nat.reduceLT, Nat.reduceBEq, ↓reduceIte, Nat.reduceEqDiff, Nat.reduceAdd, Nat.reduceMul, Nat.reduceSub, Int.reduceToNat, Nat.reduceLeDiff, Int.reduceNeg, Int.reduceEq, Int.reduceLT, Int.reduceLE, Int.reduceBEq, Int.reduceBNe, Int.reduceToNat, dis])
    refine loop_boxM (m := 0) (σ := Nat) (fun j => (2 * i - 2) - j) (fun j => j ≤ 2 * i - 2) (fun j => [V.one (.sl 0 6 0 (i + 1 + j)), vl (A2.map encI), vi A2.length, vi j])
      (fun j => [.arr 6 (Opn.enc ⟨9, 0, 0⟩ :: q ++ (A2.take j).map (fun n => (moveO n).enc)) 0]) (fun _ => Z) ?_ 0 (Nat.zero_le _) _ _ ?_
    rotate_left
    · rw [List.take_zero, List.map_nil, List.append_nil]; exact (at_headM (by decide) (by simp only [List.map_cons, List.map_nil, vis, visL, visB, fillR, rowsAt, toDs, toD, ↓ops_cons, ↓ops_consz, fzTs, fzLs, rg, rd, o, oz, kc, kb, ks, kx, on, og, od, ogd, A.run, evI, evOpt, evs, evP, argF, V.cs, binD, fzV, fzL, fzVs, dataVs, dataLs, V.data, L.data, unD, fillL, List.take_succ_cons, List.take_zero, List.drop_succ_cons, List.drop_zero, List.cons_append, ne_eq, Nat.reduceLT, Nat.reduceBEq, ↓reduceIte, Nat.reduceEqDiff, Nat.reduceAdd, Nat.reduceMul, Nat.reduceSub, Int.reduceToNat, Nat.reduceLeDiff, Int.reduceNeg, Int.reduceEq, Int.reduceLT, Int.reduceLE, Int.reduceBEq, Int.reduceBNe, Int.reduceToNat]; exact rfl) (by rfl) (by rfl) (by rfl))
    intro j hj R2 hR2
    by_cases h2 : j < 2 * i - 2
    · have h2' : j < A2.length := by omega
      have g1 : (A2.map encI)[j]? = some (encI A2[j]) := by simp [h2']
      have ht : (A2.take (j + 1)).map (fun n => (moveO n).enc) = (A2.take j).map (fun n => (moveO n).enc) ++ [(moveO A2[j]).enc] := by rw [List.take_succ_eq_append_getElem (by omega), List.map_append]; rfl
      have hR' := hR2 (j + 1) (by omega) (by omega)
      rw [ht, ← List.append_assoc] at hR'
      have hl2 : (Opn.enc ⟨9, 0, 0⟩ :: q ++ (A2.take j).map (fun n => (moveO n).enc)).length = i + 1 + j := by simp; omega
      generalize Opn.enc ⟨9, 0, 0⟩ :: q ++ (A2.take j).map (fun n => (moveO n).enc) = q2 at hR' hl2 ⊢
      (simp (disch := first | decide | omega | (intros; exact Eq.trans rfl rfl) | (simp only [puri]; done)) only [a5_1, h2, g1, encI_len, encI_at, hl2, Opn.enc, encI, vis, visL, visB, fillR, rowsAt, toDs, toD, ↓ops_cons, ↓ops_consz, fzTs, fzLs, rg, rd, o, oz, kc, kb, ks, kx, on, og, od, ogd, A.run, evI, evOpt, evs, evP, argF, V.cs, binD, fzV, fzL, fzVs, dataVs, dataLs, V.data, L.data, unD, fillL, List.take_succ_cons, List.take_zero, List.drop_succ_cons, List.drop_zero, List.cons_append, ne_eq, Nat.reduceLT, Nat.reduceBEq, ↓reduceIte, Nat.reduceEqDiff, Nat.reduceAdd, Nat.reduceMul, Nat.reduceSub, Int.reduceToNat, Nat.reduceLeDiff, Int.reduceNeg, Int.reduceEq, Int.reduceLT, Int.reduceLE, Int.reduceBEq, Int.reduceBNe, Int.reduceToNat, dis])
      exact hR' _ _ (at_headM (by decide) (by simp only [List.map_cons, List.map_nil, vis, visL, visB, fillR, rowsAt, toDs, toD, ↓ops_cons, ↓ops_consz, fzTs, fzLs, rg, rd, o, oz, kc, kb, ks, kx, on, og, od, ogd, A.run, evI, evOpt, evs, evP, argF, V.cs, binD, fzV, fzL, fzVs, dataVs, dataLs, V.data, L.data, unD, fillL, List.take_succ_cons, List.take_zero, List.drop_succ_cons, List.drop_zero, List.cons_append, ne_eq, Nat.reduceLT, Nat.reduceBEq, ↓reduceIte, Nat.reduceEqDiff, Nat.reduceAdd, Nat.reduceMul, Nat.reduceSub, Int.reduceToNat, Nat.reduceLeDiff, Int.reduceNeg, Int.reduceEq, Int.reduceLT, Int.reduceLE, Int.reduceBEq, Int.reduceBNe, Int.reduceToNat]; exact rfl) (by rfl) (by rfl) (by rfl))
    · have hjn : j = 2 * i - 2 := by omega
      have htk : A2.take j = A2 := List.take_of_length_le (by omega)
      rw [htk]
      have hl2 : (Opn.enc ⟨9, 0, 0⟩ :: q ++ A2.map (fun n => (moveO n).enc)).length = i + 1 + j := by simp; omega
      generalize Opn.enc ⟨9, 0, 0⟩ :: q ++ A2.map (fun n => (moveO n).enc) = q2 at hZ2 hl2 ⊢
      have htk2 : q2.take (i + 1 + j) = q2 := List.take_of_length_le (by omega)
      (simp (disch := first | decide | omega | (intros; exact Eq.trans rfl rfl) | (simp only [puri]; done)) only [a5_1, h2, hl2, htk2, vis, visL, visB, fillR, rowsAt, toDs, toD, ↓ops_cons, ↓ops_consz, fzTs, fzLs, rg, rd, o, oz, kc, kb, ks, kx, on, og, od, ogd, A.run, evI, evOpt, evs, evP, argF, V.cs, binD, fzV, fzL, fzVs, dataVs, dataLs, V.data, L.data, unD, fillL, List.take_succ_cons, List.take_zero, List.drop_succ_cons, List.drop_zero, List.cons_append, ne_eq, Nat.reduceLT, Nat.reduceBEq, ↓reduceIte, Nat.reduceEqDiff, Nat.reduceAdd, Nat.reduceMul, Nat.reduceSub, Int.reduceToNat, Nat.reduceLeDiff, Int.reduceNeg, Int.reduceEq, Int.reduceLT, Int.reduceLE, Int.reduceBEq, Int.reduceBNe, Int.reduceToNat, dis])
      rw [hZ2]
end Go.Proofs.Ytpalfdhmoncgoaa
