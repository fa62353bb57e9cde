import Derived.Test.YtpalfdhmoncgoaaQ01
set_option linter.unusedSimpArgs false
set_option linter.unusedVariables false
namespace Go.Proofs.Ytpalfdhmoncgoaa
open Go.Vi
set_option linter.unusedSimpArgs false

/-! ### order -/
/-- which place is taken, and the picks behind it -/
def pk (ps : List Int) (n : Nat) : Nat := match ps with | [] => 0 | p :: _ => p.toNat % n
def ordF : Nat → List Int → List Int → List Int × List Int
  | 0, _, ps => ([], ps)
  | f + 1, rest, ps => if rest = [] then ([], ps) else
    (rest.getD (pk ps rest.length) 0 :: (ordF f (rest.eraseIdx (pk ps rest.length)) ps.tail).1, (ordF f (rest.eraseIdx (pk ps rest.length)) ps.tail).2)
theorem pk_lt {ps : List Int} {n : Nat} (h : 0 < n) : pk ps n < n := by
  unfold pk; split
  · exact h
  · exact Nat.mod_lt _ h
theorem perm_at {α : Type} (l : List α) (k : Nat) (h : k < l.length) : (l[k] :: l.eraseIdx k).Perm l := by
  rw [List.eraseIdx_eq_take_drop_succ]
  have e : l.take k ++ l[k] :: l.drop (k + 1) = l := by rw [← List.drop_eq_getElem_cons h, List.take_append_drop]
  have p : (l[k] :: (l.take k ++ l.drop (k + 1))).Perm (l.take k ++ l[k] :: l.drop (k + 1)) := List.perm_middle.symm
  rw [e] at p
  exact p
theorem ordF_perm : ∀ (f : Nat) (rest ps : List Int), rest.length ≤ f → (ordF f rest ps).1.Perm rest
  | 0, rest, ps, h => by have : rest = [] := List.length_eq_zero_iff.1 (by omega); subst this; exact List.Perm.refl _
  | f + 1, rest, ps, h => by
    unfold ordF
    split
    · rename_i h0; subst h0; exact List.Perm.refl _
    · rename_i h0
      have hp := pk_lt (ps := ps) (List.length_pos_iff.2 h0)
      have ih := ordF_perm f (rest.eraseIdx (pk ps rest.length)) ps.tail (by rw [List.length_eraseIdx_of_lt hp]; omega)
      rw [List.getD_eq_getElem?_getD, List.getElem?_eq_getElem hp, Option.getD_some]
      exact (ih.cons _).trans (perm_at rest _ hp)
/-- a list of numbers where a picker holds it -/
def pkL (z : Bool) (ps : List Int) : L := if z = true ∧ ps = [] then .ns else .d (.l (ps.map encI))
def iota (n : Nat) : List Int := (List.range n).map fun (i : Nat) => (i : Int)
def rI (n i : Nat) : List (List D) := (iota i).map encI ++ List.replicate (n - i) [.i .i64 0]
theorem rI_zero (n : Nat) : List.replicate n [D.i .i64 0] = rI n 0 := by simp [rI, iota]
theorem rI_len (n i : Nat) (h : i ≤ n) : (rI n i).length = n := by simp [rI, iota]; omega
theorem rI_get (n i : Nat) (h : i < n) : (rI n i)[i]? = some [.i .i64 0] := by
  unfold rI iota
  rw [List.getElem?_append_right (by simp)]
  simp only [List.length_map, List.length_range, Nat.sub_self]
  rw [List.getElem?_replicate, if_pos (by omega)]
theorem rI_set (n i : Nat) (h : i < n) : (rI n i).set i [.i .i64 (i : Int)] = rI n (i + 1) := by
  have hl : ((iota i).map encI).length = i := by simp [iota]
  unfold rI
  rw [List.set_append_right _ _ (by omega), hl, Nat.sub_self]
  obtain ⟨m, hm⟩ : ∃ m, n - i = m + 1 := ⟨n - i - 1, by omega⟩
  rw [hm, show n - (i + 1) = m by omega, List.replicate_succ, List.set_cons_zero]
  simp [iota, List.range_succ, encI]
theorem rI_all (n : Nat) : rI n n = (iota n).map encI := by simp [rI]
theorem ordF_done (f : Nat) (ps : List Int) : ordF f [] ps = ([], ps) := by cases f <;> simp [ordF]
set_option maxRecDepth 8000 in
theorem order_spec (n : Nat) (hn : n ≤ 1000) (ps : List Int) (hps : ps.length ≤ 1000000) (hp0 : ∀ p ∈ ps, 0 ≤ p ∧ p < 256) :
    call 8 [.one (.p 0 0), vi n] [.cells [.d (.l (ps.map encI))]] = some (vl ((ordF n (iota n) ps).1.map encI), [.cells [.d (.l ((ordF n (iota n) ps).2.map encI))]]) := by
  apply enterS s8 rfl
  obtain ⟨Z, hZ⟩ : ∃ Z : V × Hp, Z = (vl ((ordF n (iota n) ps).1.map encI), [.cells [.d (.l ((ordF n (iota n) ps).2.map encI))]]) := ⟨_, rfl⟩
  rw [← hZ]
  have hb : ((n : Nat) : Int) * 8 ≤ 140737488355328 := by omega
  have e0 := rI_zero n
  (simp (disch := first | decide | omega | (intros; exact Eq.trans rfl rfl) | (simp only [puri]; done)) only [a8, hb, e0, vis, visL, visB, fillR, rowsAt, toDs, toD, ↓ops_cons, ↓ops_consz, fzTs, fzLs, rg, rd, o, oz, kc, kb, ks, kx, on, og, od, ogd, A.run, evI, evOpt, evs, evP, argF, V.cs, binD, fzV, fzL, fzVs, dataVs, dataLs, V.data, L.data, unD, fillL, List.take_succ_cons, List.take_zero, List.drop_succ_cons, List.drop_zero, List.cons_append, ne_eq, Nat.reduceLT, Nat.reduceBEq, ↓reduceIte, Nat.reduceEqDiff, Nat.reduceAdd, Nat.reduceMul, Nat.reduceSub, Int.reduceToNat, Nat.reduceLeDiff, Int.reduceNeg, Int.reduceEq, Int.reduceLT, Int.reduceLE, Int.reduceBEq, Int.reduceBNe, Int.reduceToNat, dis])
  refine loop_boxM (m := 1) (σ := Nat) (fun i => n - i) (fun i => i ≤ n) (fun i => [V.one (.p 0 0), vi n, V.one (.sl 1 1 0 n), vi n, vi i]) (fun i => [.cells [.d (.l (ps.map encI))], .arr 1 (rI n i) 0]) (fun _ => Z) ?_ 0 (Nat.zero_le _) _ _ ?_
  rotate_left
  · exact (at_headM (by decide) (by simp only [List.map_cons, List.map_nil, vis, visL, visB, fillR, rowsAt, toDs, toD, ↓ops_cons, ↓ops_consz, fzTs, fzLs, rg, rd, o, oz, kc, kb, ks, kx, on, og, od, ogd, A.run, evI, evOpt, evs, evP, argF, V.cs, binD, fzV, fzL, fzVs, dataVs, dataLs, V.data, L.data, unD, fillL, List.take_succ_cons, List.take_zero, List.drop_succ_cons, List.drop_zero, List.cons_append, ne_eq, Nat.reduceLT, Nat.reduceBEq, ↓reduceIte, Nat.reduceEqDiff, Nat.reduceAdd, Nat.reduceMul, Nat.reduceSub, Int.reduceToNat, Nat.reduceLeDiff, Int.reduceNeg, Int.reduceEq, Int.reduceLT, Int.reduceLE, Int.reduceBEq, Int.reduceBNe, Int.reduceToNat]; exact rfl) (by rfl) (by rfl) (by rfl))
  intro i hi R hR
  by_cases h1 : i < n
  · have g1 := rI_get n i h1
    have g2 := rI_set n i h1
    have g3 := rI_len n i hi
    (simp (disch := first | decide | omega | (intros; exact Eq.trans rfl rfl) | (simp only [puri]; done)) only [a8_0, g1, g2, g3, vis, visL, visB, fillR, rowsAt, toDs, toD, ↓ops_cons, ↓ops_consz, fzTs, fzLs, rg, rd, o, oz, kc, kb, ks, kx, on, og, od, ogd, A.run, evI, evOpt, evs, evP, argF, V.cs, binD, fzV, fzL, fzVs, dataVs, dataLs, V.data, L.data, unD, fillL, List.take_succ_cons, List.take_zero, List.drop_succ_cons, List.drop_zero, List.cons_append, ne_eq, Nat.reduceLT, Nat.reduceBEq, ↓reduceIte, Nat.reduceEqDiff, Nat.reduceAdd, Nat.reduceMul, Nat.reduceSub, Int.reduceToNat, Nat.reduceLeDiff, Int.reduceNeg, Int.reduceEq, Int.reduceLT, Int.reduceLE, Int.reduceBEq, Int.reduceBNe, Int.reduceToNat, dis])
    exact hR (i + 1) (by omega) (by omega) _ _ (at_headM (by decide) (by simp only [List.map_cons, List.map_nil, vis, visL, visB, fillR, rowsAt, toDs, toD, ↓ops_cons, ↓ops_consz, fzTs, fzLs, rg, rd, o, oz, kc, kb, ks, kx, on, og, od, ogd, A.run, evI, evOpt, evs, evP, argF, V.cs, binD, fzV, fzL, fzVs, dataVs, dataLs, V.data, L.data, unD, fillL, List.take_succ_cons, List.take_zero, List.drop_succ_cons, List.drop_zero, List.cons_append, ne_eq, Nat.reduceLT, Nat.reduceBEq, ↓reduceIte, Nat.reduceEqDiff, Nat.reduceAdd, Nat.reduceMul, Nat.reduceSub, Int.reduceToNat, Nat.reduceLeDiff, Int.reduceNeg, Int.reduceEq, Int.reduceLT, Int.reduceLE, Int.reduceBEq, Int.reduceBNe, Int.reduceToNat]; exact rfl) (by rfl) (by rfl) (by rfl))
  · have hin : i = n := by omega
    subst hin
    have e1 := rI_all i
    have hil : (iota i).length = i := by simp [iota]
    have hb2 : (i : Int) * 8 ≤ 140737488355328 := by omega
    (simp (disch := first | decide | omega | (intros; exact Eq.trans rfl rfl) | (simp only [puri]; done)) only [a8_0, e1, hb2, vis, visL, visB, fillR, rowsAt, toDs, toD, ↓ops_cons, ↓ops_consz, fzTs, fzLs, rg, rd, o, oz, kc, kb, ks, kx, on, og, od, ogd, A.run, evI, evOpt, evs, evP, argF, V.cs, binD, fzV, fzL, fzVs, dataVs, dataLs, V.data, L.data, unD, fillL, List.take_succ_cons, List.take_zero, List.drop_succ_cons, List.drop_zero, List.cons_append, ne_eq, Nat.reduceLT, Nat.reduceBEq, ↓reduceIte, Nat.reduceEqDiff, Nat.reduceAdd, Nat.reduceMul, Nat.reduceSub, Int.reduceToNat, Nat.reduceLeDiff, Int.reduceNeg, Int.reduceEq, Int.reduceLT, Int.reduceLE, Int.reduceBEq, Int.reduceBNe, Int.reduceToNat, dis])
    refine loop_boxM (m := 1) (σ := List Int × List Int × List Int) (fun s => s.1.length) (fun s => s.2.2.length + s.1.length = i ∧ s.2.1.length ≤ 1000000 ∧ (∀ p ∈ s.2.1, 0 ≤ p ∧ p < 256) ∧ s.2.2 ++ (ordF s.1.length s.1 s.2.1).1 = (ordF i (iota i) ps).1 ∧ (ordF s.1.length s.1 s.2.1).2 = (ordF i (iota i) ps).2)
      (fun s => [V.one (.p 0 0), V.one (.sl 1 1 0 s.1.length), V.one (.sl 2 1 0 s.2.2.length)]) (fun s => [.cells [.d (.l (s.2.1.map encI))], .arr 1 (s.1.map encI) 0, .arr 1 (s.2.2.map encI) 0]) (fun _ => Z) ?_ (iota i, ps, []) ⟨by simp [hil], hps, hp0, by rw [hil]; rfl, by rw [hil]⟩ _ _ ?_
    rotate_left
    · rw [hil]; exact (at_headM (by decide) (by simp only [List.map_cons, List.map_nil, vis, visL, visB, fillR, rowsAt, toDs, toD, ↓ops_cons, ↓ops_consz, fzTs, fzLs, rg, rd, o, oz, kc, kb, ks, kx, on, og, od, ogd, A.run, evI, evOpt, evs, evP, argF, V.cs, binD, fzV, fzL, fzVs, dataVs, dataLs, V.data, L.data, unD, fillL, List.take_succ_cons, List.take_zero, List.drop_succ_cons, List.drop_zero, List.cons_append, ne_eq, Nat.reduceLT, Nat.reduceBEq, ↓reduceIte, Nat.reduceEqDiff, Nat.reduceAdd, Nat.reduceMul, Nat.reduceSub, Int.reduceToNat, Nat.reduceLeDiff, Int.reduceNeg, Int.reduceEq, Int.reduceLT, Int.reduceLE, Int.reduceBEq, Int.reduceBNe, Int.reduceToNat]; exact rfl) (by rfl) (by rfl) (by rfl))
    rintro ⟨rest, qs, out⟩ ⟨c1, c2, c3, c4, c5⟩ R hR
    simp only at c1 c2 c3 c4 c5 hR ⊢
    by_cases h0 : rest = []
    · subst h0
      have hz : out.length ≤ i := by simp at c1; omega
      simp only [List.length_nil, ordF, List.append_nil] at c4 c5
      rw [← c4, ← c5] at hZ
      have htk : (out.map encI).take out.length = out.map encI := List.take_of_length_le (by simp)
      (simp (disch := first | decide | omega | (intros; exact Eq.trans rfl rfl) | (simp only [puri]; done)) only [a8_1, htk, vis, visL, visB, fillR, rowsAt, toDs, toD, ↓ops_cons, ↓ops_consz, fzTs, fzLs, rg, rd, o, oz, kc, kb, ks, kx, on, og, od, ogd, A.run, evI, evOpt, evs, evP, argF, V.cs, binD, fzV, fzL, fzVs, dataVs, dataLs, V.data, L.data, unD, fillL, List.take_succ_cons, List.take_zero, List.drop_succ_cons, List.drop_zero, List.cons_append, ne_eq, Nat.reduceLT, Nat.reduceBEq, ↓reduceIte, Nat.reduceEqDiff, Nat.reduceAdd, Nat.reduceMul, Nat.reduceSub, Int.reduceToNat, Nat.reduceLeDiff, Int.reduceNeg, Int.reduceEq, Int.reduceLT, Int.reduceLE, Int.reduceBEq, Int.reduceBNe, Int.reduceToNat, dis])
      rw [hZ]
      simp [trim, V.refs, L.refs, Box.refs]
    · have hpos : 0 < rest.length := List.length_pos_iff.2 h0
      have hk := pk_lt (ps := qs) hpos
      obtain ⟨k, hkk⟩ : ∃ k, k = pk qs rest.length := ⟨_, rfl⟩
      rw [← hkk] at hk
      obtain ⟨f, hf⟩ : ∃ f, rest.length = f + 1 := ⟨rest.length - 1, by omega⟩
      have he : (rest.eraseIdx k).length = f := by rw [List.length_eraseIdx_of_lt hk]; omega
      have hord : ordF rest.length rest qs = (rest[k] :: (ordF f (rest.eraseIdx k) qs.tail).1, (ordF f (rest.eraseIdx k) qs.tail).2) := by
        rw [hf]
        simp only [ordF, if_neg h0]
        rw [← hkk, List.getD_eq_getElem?_getD, List.getElem?_eq_getElem hk, Option.getD_some]
      rw [hord] at c4 c5
      have hR' := hR (rest.eraseIdx k, qs.tail, out ++ [rest[k]]) (by simp only []; omega) ⟨by simp; omega, by simp; omega, fun p hp => c3 p (List.mem_of_mem_tail hp), by simp only [he]; rw [List.append_assoc]; exact c4, by simp only [he]; exact c5⟩
      simp only [he, List.length_append, List.length_cons, List.length_nil, List.map_append, List.map_cons, List.map_nil] at hR'
      have g1 : (rest.map encI)[k]? = some (encI rest[k]) := by simp [hk]
      have hdr : (rest.map encI).take k ++ (rest.map encI).drop (k + 1) = (rest.eraseIdx k).map encI := by rw [List.eraseIdx_eq_take_drop_succ]; simp
      have hd0 := del_at (l := lib) (an := anOf ans) (P := Try.prog) (f := 9) (k := 1) rfl rfl rfl (rest.map encI) k (by simpa using hk) (by simp; omega)
      rw [hdr, List.length_map, hf] at hd0
      have hdel : ∀ (B a b c : Box), callIso call 9 [.one (.sl 1 1 0 (f + 1)), vi k, .one (.d (.i .i64 ((k : Int) + 1)))] [B, .arr 1 (rest.map encI) 0, a, b, c] = some (.one (.sl 5 1 0 f), [B, .dead, a, b, c, .arr 1 ((rest.eraseIdx k).map encI) 0]) := fun B a b c =>
        iso_at (ids := [1]) rfl rfl rfl hd0 rfl
      have hfn : ((f : Nat) : Int) + 1 = ((f + 1 : Nat) : Int) := by omega
      have hz2 : (0 : Int) < ((f : Nat) : Int) + 1 := by omega
      have hk1 : k < f + 1 := by omega
      cases qs with
      | nil =>
        have hk0 : k = 0 := hkk
        subst hk0
        have z0 : ((0 : Nat) : Int) = 0 := rfl
        simp only [z0] at hdel g1
        (simp (disch := first | decide | omega | (intros; exact Eq.trans rfl rfl) | (simp only [puri]; done)) only [a8_1, hf, g1, encI_len, encI_at, ↓hdel, hz2, encI, vis, visL, visB, fillR, rowsAt, toDs, toD, ↓ops_cons, ↓ops_consz, fzTs, fzLs, rg, rd, o, oz, kc, kb, ks, kx, on, og, od, ogd, A.run, evI, evOpt, evs, evP, argF, V.cs, binD, fzV, fzL, fzVs, dataVs, dataLs, V.data, L.data, unD, fillL, List.take_succ_cons, List.take_zero, List.drop_succ_cons, List.drop_zero, List.cons_append, ne_eq, Nat.reduceLT, Nat.reduceBEq, ↓reduceIte, Nat.reduceEqDiff, Nat.reduceAdd, Nat.reduceMul, Nat.reduceSub, Int.reduceToNat, Nat.reduceLeDiff, Int.reduceNeg, Int.reduceEq, Int.reduceLT, Int.reduceLE, Int.reduceBEq, Int.reduceBNe, Int.reduceToNat, dis])
        exact hR' _ _ (at_headM (by decide) (by simp only [List.map_cons, List.map_nil, vis, visL, visB, fillR, rowsAt, toDs, toD, ↓ops_cons, ↓ops_consz, fzTs, fzLs, rg, rd, o, oz, kc, kb, ks, kx, on, og, od, ogd, A.run, evI, evOpt, evs, evP, argF, V.cs, binD, fzV, fzL, fzVs, dataVs, dataLs, V.data, L.data, unD, fillL, List.take_succ_cons, List.take_zero, List.drop_succ_cons, List.drop_zero, List.cons_append, ne_eq, Nat.reduceLT, Nat.reduceBEq, ↓reduceIte, Nat.reduceEqDiff, Nat.reduceAdd, Nat.reduceMul, Nat.reduceSub, Int.reduceToNat, Nat.reduceLeDiff, Int.reduceNeg, Int.reduceEq, Int.reduceLT, Int.reduceLE, Int.reduceBEq, Int.reduceBNe, Int.reduceToNat]; exact rfl) (by rfl) (by rfl) (by rfl))
      | cons p qt =>
        have hp := c3 p (by simp)
        obtain ⟨m, rfl⟩ : ∃ m : Nat, p = m := ⟨p.toNat, by omega⟩
        have hkm : ((m : Nat) : Int).tmod ((f + 1 : Nat) : Int) = ((k : Nat) : Int) := by
          rw [Int.tmod_eq_emod_of_nonneg (by omega), hkk]
          simp only [pk, hf, Int.toNat_natCast]
          exact (Int.natCast_emod m (f + 1)).symm
        have hne : (((f + 1 : Nat) : Int) = 0) = False := eq_false (by omega)
        (simp (disch := first | decide | omega | (intros; exact Eq.trans rfl rfl) | (simp only [puri]; done)) only [a8_1, hf, g1, encI_len, encI_at, ↓hdel, hz2, encI, hkm, hne, vis, visL, visB, fillR, rowsAt, toDs, toD, ↓ops_cons, ↓ops_consz, fzTs, fzLs, rg, rd, o, oz, kc, kb, ks, kx, on, og, od, ogd, A.run, evI, evOpt, evs, evP, argF, V.cs, binD, fzV, fzL, fzVs, dataVs, dataLs, V.data, L.data, unD, fillL, List.take_succ_cons, List.take_zero, List.drop_succ_cons, List.drop_zero, List.cons_append, ne_eq, Nat.reduceLT, Nat.reduceBEq, ↓reduceIte, Nat.reduceEqDiff, Nat.reduceAdd, Nat.reduceMul, Nat.reduceSub, Int.reduceToNat, Nat.reduceLeDiff, Int.reduceNeg, Int.reduceEq, Int.reduceLT, Int.reduceLE, Int.reduceBEq, Int.reduceBNe, Int.reduceToNat, dis])
        exact hR' _ _ (at_headM (by decide) (by simp only [List.map_cons, List.map_nil, vis, visL, visB, fillR, rowsAt, toDs, toD, ↓ops_cons, ↓ops_consz, fzTs, fzLs, rg, rd, o, oz, kc, kb, ks, kx, on, og, od, ogd, A.run, evI, evOpt, evs, evP, argF, V.cs, binD, fzV, fzL, fzVs, dataVs, dataLs, V.data, L.data, unD, fillL, List.take_succ_cons, List.take_zero, List.drop_succ_cons, List.drop_zero, List.cons_append, ne_eq, Nat.reduceLT, Nat.reduceBEq, ↓reduceIte, Nat.reduceEqDiff, Nat.reduceAdd, Nat.reduceMul, Nat.reduceSub, Int.reduceToNat, Nat.reduceLeDiff, Int.reduceNeg, Int.reduceEq, Int.reduceLT, Int.reduceLE, Int.reduceBEq, Int.reduceBNe, Int.reduceToNat]; exact rfl) (by rfl) (by rfl) (by rfl))
end Go.Proofs.Ytpalfdhmoncgoaa
