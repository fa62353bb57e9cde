import Derived.Test.YtogleebbifpijaaD05
import Derived.Test.YtogleebbifpijaaVic
set_option linter.unusedSimpArgs false
set_option linter.unusedVariables false
namespace Go.Proofs.Ytogleebbifpijaa
open Go.Vi
set_option linter.unusedSimpArgs false

theorem refRead_neg (s : List UInt8) (a : Int) (ha : a < 0) : call 47 [vs s, vi a] [] = some (rdV 0 none, []) := by
  apply enterS s47 rfl
  (simp (disch := first | decide | omega | (intros; exact Eq.trans rfl rfl) | (simp only [puri]; done)) only [a47, rdV, vis, visL, visB, fillR, rowsAt, toDs, toD, ↓ops_cons, ↓ops_consz, fzTs, fzLs, rg, rd, o, oz, kc, kb, ks, kx, on, og, od, ogd, A.run, evI, evOpt, evs, evP, argF, V.cs, binD, fzV, fzL, fzVs, dataVs, dataLs, V.data, L.data, unD, fillL, List.take_succ_cons, List.take_zero, List.drop_succ_cons, List.drop_zero, List.cons_append, ne_eq, Nat.reduceLT, Nat.reduceBEq, ↓reduceIte, Nat.reduceEqDiff, Nat.reduceAdd, Nat.reduceMul, Nat.reduceSub, Int.reduceToNat, Nat.reduceLeDiff, Int.reduceNeg, Int.reduceEq, Int.reduceLT, Int.reduceLE, Int.reduceBEq, Int.reduceBNe, Int.reduceToNat, dis])

set_option maxRecDepth 4000 in
theorem refRead_spec (s : List UInt8) (a : Nat) (ha : a < 9223372036854775808) (hs : s.length ≤ 9223372036854775807) : call 47 [vs s, vi a] [] = some (rdV a (rdF (s.drop a) 0 0), []) := by
  apply enterS s47 rfl
  rcases Nat.lt_or_ge a s.length with hal | hal
  · have e00 : (s.take (a + 0)).drop a = [] := List.drop_eq_nil_of_le (by simp; omega)
    rw [show rdF (s.drop a) 0 0 = rdF (s.drop (a + 0)) 0 (val ((s.take (a + 0)).drop a)) by rw [e00]; rfl]
    (simp (disch := first | decide | omega | (intros; exact Eq.trans rfl rfl) | (simp only [puri]; done)) only [a47, vis, visL, visB, fillR, rowsAt, toDs, toD, ↓ops_cons, ↓ops_consz, fzTs, fzLs, rg, rd, o, oz, kc, kb, ks, kx, on, og, od, ogd, A.run, evI, evOpt, evs, evP, argF, V.cs, binD, fzV, fzL, fzVs, dataVs, dataLs, V.data, L.data, unD, fillL, List.take_succ_cons, List.take_zero, List.drop_succ_cons, List.drop_zero, List.cons_append, ne_eq, Nat.reduceLT, Nat.reduceBEq, ↓reduceIte, Nat.reduceEqDiff, Nat.reduceAdd, Nat.reduceMul, Nat.reduceSub, Int.reduceToNat, Nat.reduceLeDiff, Int.reduceNeg, Int.reduceEq, Int.reduceLT, Int.reduceLE, Int.reduceBEq, Int.reduceBNe, Int.reduceToNat, dis])
    refine loop_box (σ := Nat) (fun i => 9 - i) (fun i => i ≤ 9 ∧ a + i ≤ s.length ∧ bigs ((s.take (a + i)).drop a)) (fun i => [vs s, vi a, vi (val ((s.take (a + i)).drop a)), vi ((128 ^ min i 8 : Nat) : Int), vi i]) (fun _ => [])
      (fun i => (rdV a (rdF (s.drop (a + i)) i (val ((s.take (a + i)).drop a))), ([] : Hp))) ?_ 0 ⟨by decide, by omega, ?_⟩ _ _ ?_
    · rintro i ⟨hi, hai, hp⟩ R hR
      obtain ⟨p, hpe⟩ : ∃ p, p = (s.take (a + i)).drop a := ⟨_, rfl⟩
      have hpl := sls_len s a i hai
      rw [← hpe] at hp hpl
      simp only [← hpe]
      have hvl := val_lt p
      rw [hpl] at hvl
      rcases Nat.lt_or_ge (a + i) s.length with h | h
      · have hsn := sls_snoc s a i h
        rw [← hpe] at hsn
        rcases Nat.lt_or_ge i 9 with h9 | h9
        · simp only [List.drop_eq_getElem_cons h, rdF_cons]
          rw [if_neg (by omega)]
          obtain ⟨c, hc⟩ : ∃ c, c = s[a + i] := ⟨_, rfl⟩
          rw [← hc] at hsn ⊢
          have hg : s[a + i]? = some c := by rw [hc]; simp [h]
          have hc8 := c.toNat_lt
          have hm : c.toNat % 128 < 128 := Nat.mod_lt _ (by decide)
          obtain ⟨_, hbd⟩ := shl64 (c.toNat % 128) i hm (by omega)
          have hpw : (2 : Nat) ^ (7 * i) = 128 ^ i := by rw [Nat.pow_mul]
          rw [hpw] at hbd
          have hmin : min i 8 = i := by omega
          have hidx : (((a : Nat) : Int) + ((i : Nat) : Int)).toNat = a + i := by omega
          have hr : ((c.toNat : Nat) : Int).tmod 128 = ((c.toNat % 128 : Nat) : Int) := by rw [Int.tmod_eq_emod_of_nonneg (by omega)]; omega
          have hmul : ((c.toNat % 128 : Nat) : Int) * ((128 ^ i : Nat) : Int) = ((c.toNat % 128 * 128 ^ i : Nat) : Int) := (Int.natCast_mul _ _).symm
          have hw1 : IntKind.i64.wrap (((c.toNat % 128 * 128 ^ i : Nat) : Int)) = ((c.toNat % 128 * 128 ^ i : Nat) : Int) := wrap_i (by omega)
          have hw2 : IntKind.i64.wrap (((val p : Nat) : Int) + ((c.toNat % 128 * 128 ^ i : Nat) : Int)) = ((val p + c.toNat % 128 * 128 ^ i : Nat) : Int) := by rw [wrap_i (by omega)]; omega
          have hwc : IntKind.i64.wrap ((c.toNat : Nat) : Int) = ((c.toNat : Nat) : Int) := wrap_i (by omega)
          have hnat : ((a + (i + 1) : Nat) : Int) = (a : Int) + (i : Int) + 1 := by omega
          have hto : ((a : Int) + (i : Int) + 1).toNat = a + i + 1 := by omega
          rcases Nat.lt_or_ge c.toNat 128 with h1 | h1
          · rw [if_neg (by omega)]
            have hmm : c.toNat % 128 = c.toNat := Nat.mod_eq_of_lt h1
            rw [hmm] at hw1 hw2 hmul hr hbd
            have henc := enc_snoc p c hp h1
            rw [hpl] at henc
            have hput := refPut_spec (val p + c.toNat * 128 ^ i) (by omega)
            by_cases h0 : c.toNat = 0 ∧ 0 < i
            · rw [if_pos h0]
              have hne : (enc128 (val p + c.toNat * 128 ^ i) == p ++ [c]) = false := by
                rw [beq_eq_false_iff_ne]; exact fun e => (henc.1 e) h0
              (simp (disch := first | decide | omega | (intros; exact Eq.trans rfl rfl) | (simp only [puri]; done)) only [a47_0, hidx, hg, hwc, hr, hmin, hmul, hw1, hw2, hput, hto, hsn, hne, rdV, vis, visL, visB, fillR, rowsAt, toDs, toD, ↓ops_cons, ↓ops_consz, fzTs, fzLs, rg, rd, o, oz, kc, kb, ks, kx, on, og, od, ogd, A.run, evI, evOpt, evs, evP, argF, V.cs, binD, fzV, fzL, fzVs, dataVs, dataLs, V.data, L.data, unD, fillL, List.take_succ_cons, List.take_zero, List.drop_succ_cons, List.drop_zero, List.cons_append, ne_eq, Nat.reduceLT, Nat.reduceBEq, ↓reduceIte, Nat.reduceEqDiff, Nat.reduceAdd, Nat.reduceMul, Nat.reduceSub, Int.reduceToNat, Nat.reduceLeDiff, Int.reduceNeg, Int.reduceEq, Int.reduceLT, Int.reduceLE, Int.reduceBEq, Int.reduceBNe, Int.reduceToNat, dis])
            · rw [if_neg h0]
              have hne : (enc128 (val p + c.toNat * 128 ^ i) == p ++ [c]) = true := by
                rw [beq_iff_eq]; exact henc.2 h0
              (simp (disch := first | decide | omega | (intros; exact Eq.trans rfl rfl) | (simp only [puri]; done)) only [a47_0, hidx, hg, hwc, hr, hmin, hmul, hw1, hw2, hput, hto, hsn, hne, hnat, rdV, vis, visL, visB, fillR, rowsAt, toDs, toD, ↓ops_cons, ↓ops_consz, fzTs, fzLs, rg, rd, o, oz, kc, kb, ks, kx, on, og, od, ogd, A.run, evI, evOpt, evs, evP, argF, V.cs, binD, fzV, fzL, fzVs, dataVs, dataLs, V.data, L.data, unD, fillL, List.take_succ_cons, List.take_zero, List.drop_succ_cons, List.drop_zero, List.cons_append, ne_eq, Nat.reduceLT, Nat.reduceBEq, ↓reduceIte, Nat.reduceEqDiff, Nat.reduceAdd, Nat.reduceMul, Nat.reduceSub, Int.reduceToNat, Nat.reduceLeDiff, Int.reduceNeg, Int.reduceEq, Int.reduceLT, Int.reduceLE, Int.reduceBEq, Int.reduceBNe, Int.reduceToNat, dis])
          · rw [if_pos h1]
            have hv : val (p ++ [c]) = val p + c.toNat % 128 * 128 ^ i := by rw [val_snoc, hpl]
            have hb : bigs (p ++ [c]) := by
              intro x hx
              rcases List.mem_append.1 hx with hx | hx
              · exact hp x hx
              · simp at hx; subst hx; exact h1
            have hR' := hR (i + 1) (by omega)
            simp only [← Nat.add_assoc, hsn, hv] at hR'
            rcases Nat.lt_or_ge i 8 with h8 | h8
            · have hmin2 : min (i + 1) 8 = i + 1 := by omega
              have hpb : 128 ^ i * 128 ≤ 128 ^ 8 := by rw [← Nat.pow_succ]; exact Nat.pow_le_pow_right (by decide) (by omega)
              have hpe8 : (128 : Nat) ^ 8 = 72057594037927936 := by decide
              have hw3 : IntKind.i64.wrap (((128 ^ i : Nat) : Int) * 128) = ((128 ^ (i + 1) : Nat) : Int) := by
                rw [Nat.pow_succ, wrap_i (by omega)]; omega
              (simp (disch := first | decide | omega | (intros; exact Eq.trans rfl rfl) | (simp only [puri]; done)) only [a47_0, hidx, hg, hwc, hr, hmin, hmul, hw1, hw2, hw3, vis, visL, visB, fillR, rowsAt, toDs, toD, ↓ops_cons, ↓ops_consz, fzTs, fzLs, rg, rd, o, oz, kc, kb, ks, kx, on, og, od, ogd, A.run, evI, evOpt, evs, evP, argF, V.cs, binD, fzV, fzL, fzVs, dataVs, dataLs, V.data, L.data, unD, fillL, List.take_succ_cons, List.take_zero, List.drop_succ_cons, List.drop_zero, List.cons_append, ne_eq, Nat.reduceLT, Nat.reduceBEq, ↓reduceIte, Nat.reduceEqDiff, Nat.reduceAdd, Nat.reduceMul, Nat.reduceSub, Int.reduceToNat, Nat.reduceLeDiff, Int.reduceNeg, Int.reduceEq, Int.reduceLT, Int.reduceLE, Int.reduceBEq, Int.reduceBNe, Int.reduceToNat, dis])
              exact hR' ⟨by omega, by omega, hb⟩ _ _ (at_head2 (by decide) (by simp only [List.map_cons, List.map_nil, vis, visL, visB, fillR, rowsAt, toDs, toD, ↓ops_cons, ↓ops_consz, fzTs, fzLs, rg, rd, o, oz, kc, kb, ks, kx, on, og, od, ogd, A.run, evI, evOpt, evs, evP, argF, V.cs, binD, fzV, fzL, fzVs, dataVs, dataLs, V.data, L.data, unD, fillL, List.take_succ_cons, List.take_zero, List.drop_succ_cons, List.drop_zero, List.cons_append, ne_eq, Nat.reduceLT, Nat.reduceBEq, ↓reduceIte, Nat.reduceEqDiff, Nat.reduceAdd, Nat.reduceMul, Nat.reduceSub, Int.reduceToNat, Nat.reduceLeDiff, Int.reduceNeg, Int.reduceEq, Int.reduceLT, Int.reduceLE, Int.reduceBEq, Int.reduceBNe, Int.reduceToNat]; exact rfl) (by simp [idsOf, reach, place_cons, place_nil, canonH, V.ren, L.ren, Box.ren, V.refs, L.refs, Box.refs, hmin2]) (by simp [idsOf, reach, place_cons, place_nil, canonH, V.ren, L.ren, Box.ren, V.refs, L.refs, Box.refs, hmin2]))
            · have hi8 : i = 8 := by omega
              subst hi8
              (simp (disch := first | decide | omega | (intros; exact Eq.trans rfl rfl) | (simp only [puri]; done)) only [a47_0, hidx, hg, hwc, hr, hmin, hmul, hw1, hw2, vis, visL, visB, fillR, rowsAt, toDs, toD, ↓ops_cons, ↓ops_consz, fzTs, fzLs, rg, rd, o, oz, kc, kb, ks, kx, on, og, od, ogd, A.run, evI, evOpt, evs, evP, argF, V.cs, binD, fzV, fzL, fzVs, dataVs, dataLs, V.data, L.data, unD, fillL, List.take_succ_cons, List.take_zero, List.drop_succ_cons, List.drop_zero, List.cons_append, ne_eq, Nat.reduceLT, Nat.reduceBEq, ↓reduceIte, Nat.reduceEqDiff, Nat.reduceAdd, Nat.reduceMul, Nat.reduceSub, Int.reduceToNat, Nat.reduceLeDiff, Int.reduceNeg, Int.reduceEq, Int.reduceLT, Int.reduceLE, Int.reduceBEq, Int.reduceBNe, Int.reduceToNat, dis])
              exact hR' ⟨by omega, by omega, hb⟩ _ _ (at_head2 (by decide) (by simp only [List.map_cons, List.map_nil, vis, visL, visB, fillR, rowsAt, toDs, toD, ↓ops_cons, ↓ops_consz, fzTs, fzLs, rg, rd, o, oz, kc, kb, ks, kx, on, og, od, ogd, A.run, evI, evOpt, evs, evP, argF, V.cs, binD, fzV, fzL, fzVs, dataVs, dataLs, V.data, L.data, unD, fillL, List.take_succ_cons, List.take_zero, List.drop_succ_cons, List.drop_zero, List.cons_append, ne_eq, Nat.reduceLT, Nat.reduceBEq, ↓reduceIte, Nat.reduceEqDiff, Nat.reduceAdd, Nat.reduceMul, Nat.reduceSub, Int.reduceToNat, Nat.reduceLeDiff, Int.reduceNeg, Int.reduceEq, Int.reduceLT, Int.reduceLE, Int.reduceBEq, Int.reduceBNe, Int.reduceToNat]; exact rfl) (by simp [idsOf, reach, place_cons, place_nil, canonH, V.ren, L.ren, Box.ren, V.refs, L.refs, Box.refs, true_and]) (by simp [idsOf, reach, place_cons, place_nil, canonH, V.ren, L.ren, Box.ren, V.refs, L.refs, Box.refs, true_and]))
        · have e : rdF (s.drop (a + i)) i (val p) = none := by
            rw [List.drop_eq_getElem_cons h, rdF_cons, if_pos h9]
          simp only [e]
          (simp (disch := first | decide | omega | (intros; exact Eq.trans rfl rfl) | (simp only [puri]; done)) only [a47_0, rdV, vis, visL, visB, fillR, rowsAt, toDs, toD, ↓ops_cons, ↓ops_consz, fzTs, fzLs, rg, rd, o, oz, kc, kb, ks, kx, on, og, od, ogd, A.run, evI, evOpt, evs, evP, argF, V.cs, binD, fzV, fzL, fzVs, dataVs, dataLs, V.data, L.data, unD, fillL, List.take_succ_cons, List.take_zero, List.drop_succ_cons, List.drop_zero, List.cons_append, ne_eq, Nat.reduceLT, Nat.reduceBEq, ↓reduceIte, Nat.reduceEqDiff, Nat.reduceAdd, Nat.reduceMul, Nat.reduceSub, Int.reduceToNat, Nat.reduceLeDiff, Int.reduceNeg, Int.reduceEq, Int.reduceLT, Int.reduceLE, Int.reduceBEq, Int.reduceBNe, Int.reduceToNat, dis])
      · simp only [List.drop_eq_nil_of_le h, rdF_nil]
        rcases Nat.lt_or_ge i 9 with h9 | h9
        · (simp (disch := first | decide | omega | (intros; exact Eq.trans rfl rfl) | (simp only [puri]; done)) only [a47_0, rdV, vis, visL, visB, fillR, rowsAt, toDs, toD, ↓ops_cons, ↓ops_consz, fzTs, fzLs, rg, rd, o, oz, kc, kb, ks, kx, on, og, od, ogd, A.run, evI, evOpt, evs, evP, argF, V.cs, binD, fzV, fzL, fzVs, dataVs, dataLs, V.data, L.data, unD, fillL, List.take_succ_cons, List.take_zero, List.drop_succ_cons, List.drop_zero, List.cons_append, ne_eq, Nat.reduceLT, Nat.reduceBEq, ↓reduceIte, Nat.reduceEqDiff, Nat.reduceAdd, Nat.reduceMul, Nat.reduceSub, Int.reduceToNat, Nat.reduceLeDiff, Int.reduceNeg, Int.reduceEq, Int.reduceLT, Int.reduceLE, Int.reduceBEq, Int.reduceBNe, Int.reduceToNat, dis])
        · (simp (disch := first | decide | omega | (intros; exact Eq.trans rfl rfl) | (simp only [puri]; done)) only [a47_0, rdV, vis, visL, visB, fillR, rowsAt, toDs, toD, ↓ops_cons, ↓ops_consz, fzTs, fzLs, rg, rd, o, oz, kc, kb, ks, kx, on, og, od, ogd, A.run, evI, evOpt, evs, evP, argF, V.cs, binD, fzV, fzL, fzVs, dataVs, dataLs, V.data, L.data, unD, fillL, List.take_succ_cons, List.take_zero, List.drop_succ_cons, List.drop_zero, List.cons_append, ne_eq, Nat.reduceLT, Nat.reduceBEq, ↓reduceIte, Nat.reduceEqDiff, Nat.reduceAdd, Nat.reduceMul, Nat.reduceSub, Int.reduceToNat, Nat.reduceLeDiff, Int.reduceNeg, Int.reduceEq, Int.reduceLT, Int.reduceLE, Int.reduceBEq, Int.reduceBNe, Int.reduceToNat, dis])
    · intro c hc; simp at hc
    · have e0 : (s.take (a + 0)).drop a = [] := List.drop_eq_nil_of_le (by simp; omega)
      have e0' : (s.take a).drop a = [] := List.drop_eq_nil_of_le (by simp; omega)
      exact (at_head2 (by decide) (by simp only [List.map_cons, List.map_nil, vis, visL, visB, fillR, rowsAt, toDs, toD, ↓ops_cons, ↓ops_consz, fzTs, fzLs, rg, rd, o, oz, kc, kb, ks, kx, on, og, od, ogd, A.run, evI, evOpt, evs, evP, argF, V.cs, binD, fzV, fzL, fzVs, dataVs, dataLs, V.data, L.data, unD, fillL, List.take_succ_cons, List.take_zero, List.drop_succ_cons, List.drop_zero, List.cons_append, ne_eq, Nat.reduceLT, Nat.reduceBEq, ↓reduceIte, Nat.reduceEqDiff, Nat.reduceAdd, Nat.reduceMul, Nat.reduceSub, Int.reduceToNat, Nat.reduceLeDiff, Int.reduceNeg, Int.reduceEq, Int.reduceLT, Int.reduceLE, Int.reduceBEq, Int.reduceBNe, Int.reduceToNat]; exact rfl) (by simp [idsOf, reach, place_cons, place_nil, canonH, V.ren, L.ren, Box.ren, V.refs, L.refs, Box.refs, e0', val]) (by simp [idsOf, reach, place_cons, place_nil, canonH, V.ren, L.ren, Box.ren, V.refs, L.refs, Box.refs, e0', val]))
  · rw [List.drop_eq_nil_of_le hal, rdF_nil]
    (simp (disch := first | decide | omega | (intros; exact Eq.trans rfl rfl) | (simp only [puri]; done)) only [a47, rdV, vis, visL, visB, fillR, rowsAt, toDs, toD, ↓ops_cons, ↓ops_consz, fzTs, fzLs, rg, rd, o, oz, kc, kb, ks, kx, on, og, od, ogd, A.run, evI, evOpt, evs, evP, argF, V.cs, binD, fzV, fzL, fzVs, dataVs, dataLs, V.data, L.data, unD, fillL, List.take_succ_cons, List.take_zero, List.drop_succ_cons, List.drop_zero, List.cons_append, ne_eq, Nat.reduceLT, Nat.reduceBEq, ↓reduceIte, Nat.reduceEqDiff, Nat.reduceAdd, Nat.reduceMul, Nat.reduceSub, Int.reduceToNat, Nat.reduceLeDiff, Int.reduceNeg, Int.reduceEq, Int.reduceLT, Int.reduceLE, Int.reduceBEq, Int.reduceBNe, Int.reduceToNat, dis])
end Go.Proofs.Ytogleebbifpijaa
