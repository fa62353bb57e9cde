import Derived.Test.YtgcamaneelgejaaF10
import Derived.Test.YtgcamaneelgejaaVib
set_option linter.unusedSimpArgs false
set_option linter.unusedVariables false
namespace Go.Proofs.Ytgcamaneelgejaa
open Go.Vi
set_option linter.unusedSimpArgs false

set_option maxRecDepth 8000 in
theorem frameTurned_law1 (b : List UInt8) (a : Nat) (d : UInt8) (ha : a < 65536) (hb : b.length ≤ 9223372036854775807) :
    call 4 [vs b, vk .u16 ((a : Nat) : Int), vk .u8 ((d.toNat : Nat) : Int)] [] = some (vb true, []) := by
  apply enterS s4 rfl
  have haw := awake_spec
  have p1 := putFrame_spec b hb
  unfold putV at p1
  by_cases c : 1 ≤ b.length ∧ b.length ≤ 65536
  · rw [if_pos c] at p1
    by_cases c1 : b.length ≤ 300
    · by_cases hd : d = 0
      · subst hd
        have e0 : (((0 : UInt8).toNat : Nat) : Int) = 0 := rfl
        (simp (disch := first | decide | omega | (intros; exact Eq.trans rfl rfl) | (simp only [puri]; done)) only [a4, haw, p1, e0, vis, visL, visB, fillR, rowsAt, toDs, toD, ↓ops_cons, ↓ops_consz, fzTs, fzLs, rg, rd, o, oz, kc, kb, ks, kx, on, og, od, ogd, A.run, evI, evOpt, evs, evP, argF, V.cs, binD, fzV, fzL, fzVs, dataVs, dataLs, V.data, L.data, unD, fillL, List.take_succ_cons, List.take_zero, List.drop_succ_cons, List.drop_zero, List.cons_append, ne_eq, Nat.reduceLT, Nat.reduceBEq, ↓reduceIte, Nat.reduceEqDiff, Nat.reduceAdd, Nat.reduceMul, Nat.reduceSub, Int.reduceToNat, Nat.reduceLeDiff, Int.reduceNeg, Int.reduceEq, Int.reduceLT, Int.reduceLE, Int.reduceBEq, Int.reduceBNe, Int.reduceToNat, dis])
      · have hd0 : d.toNat ≠ 0 := fun e => hd (UInt8.toNat_inj.1 (by simpa using e))
        have hl := frameF_len b
        have hn := nd_pos b.length
        have h9 := nd_le9 (n := b.length) (by omega)
        have hmod : a % (b.length + 4) < b.length + 4 := Nat.mod_lt _ (by omega)
        obtain ⟨q, hq⟩ : ∃ q, q = a % (b.length + 4) := ⟨_, rfl⟩
        have hrem : ((a : Nat) : Int).tmod (((b.length : Nat) : Int) + 4) = ((q : Nat) : Int) := by
          rw [Int.tmod_eq_emod_of_nonneg (by omega), hq]; simp
        rw [← hq] at hmod
        have hk : nd b.length + q < (frameF b).length := by omega
        have hne : (((b.length : Nat) : Int) + 4 = 0) = False := by simp; omega
        have hw1 : IntKind.i64.wrap ((((frameF b).length : Nat) : Int) - ((b.length : Nat) : Int)) = ((nd b.length + 4 : Nat) : Int) := by rw [wrap_i (by omega)]; omega
        have hw2 : IntKind.i64.wrap (((nd b.length + 4 : Nat) : Int) - 4) = ((nd b.length : Nat) : Int) := by rw [wrap_i (by omega)]; omega
        have hw3 : IntKind.i64.wrap (((nd b.length : Nat) : Int) + ((q : Nat) : Int)) = ((nd b.length + q : Nat) : Int) := by rw [wrap_i (by omega)]; rfl
        have hg := rowsOfBytes_get (frameF b) (nd b.length + q) hk
        have hx := xor8 ((frameF b)[nd b.length + q]'hk) d
        have hs := rowsOfBytes_set (frameF b) (nd b.length + q) ((frameF b)[nd b.length + q]'hk ^^^ d)
        have hr := rowsOfBytes_len (frameF b)
        have hsl : ((frameF b).set (nd b.length + q) ((frameF b)[nd b.length + q]'hk ^^^ d)).length = (frameF b).length := by simp
        have htk : (rowsOfBytes ((frameF b).set (nd b.length + q) ((frameF b)[nd b.length + q]'hk ^^^ d))).take (frameF b).length = rowsOfBytes ((frameF b).set (nd b.length + q) ((frameF b)[nd b.length + q]'hk ^^^ d)) :=
          List.take_of_length_le (by rw [rowsOfBytes_len]; simp)
        have hnx := next_spec ((frameF b).set (nd b.length + q) ((frameF b)[nd b.length + q]'hk ^^^ d)) 0 (by decide) (by rw [hsl]; omega)
        rw [nextF_turned b (nd b.length + q) _ c.1 c.2 (by omega) hk (xor8_ne hd)] at hnx
        have hnx : call 11 [vs ((frameF b).set (nd b.length + q) ((frameF b)[nd b.length + q]'hk ^^^ d)), vi 0] [] = some (nextV ([], 0, 4), []) := hnx
        (simp (disch := first | decide | omega | (intros; exact Eq.trans rfl rfl) | (simp only [puri]; done)) only [a4, haw, p1, hne, hrem, hw1, hw2, hw3, hg, ↓hx, hs, hr, rowsOfBytes_len, hsl, htk, bytesOf_rows, hnx, nextV, vis, visL, visB, fillR, rowsAt, toDs, toD, ↓ops_cons, ↓ops_consz, fzTs, fzLs, rg, rd, o, oz, kc, kb, ks, kx, on, og, od, ogd, A.run, evI, evOpt, evs, evP, argF, V.cs, binD, fzV, fzL, fzVs, dataVs, dataLs, V.data, L.data, unD, fillL, List.take_succ_cons, List.take_zero, List.drop_succ_cons, List.drop_zero, List.cons_append, ne_eq, Nat.reduceLT, Nat.reduceBEq, ↓reduceIte, Nat.reduceEqDiff, Nat.reduceAdd, Nat.reduceMul, Nat.reduceSub, Int.reduceToNat, Nat.reduceLeDiff, Int.reduceNeg, Int.reduceEq, Int.reduceLT, Int.reduceLE, Int.reduceBEq, Int.reduceBNe, Int.reduceToNat, dis])
    · (simp (disch := first | decide | omega | (intros; exact Eq.trans rfl rfl) | (simp only [puri]; done)) only [a4, haw, p1, vis, visL, visB, fillR, rowsAt, toDs, toD, ↓ops_cons, ↓ops_consz, fzTs, fzLs, rg, rd, o, oz, kc, kb, ks, kx, on, og, od, ogd, A.run, evI, evOpt, evs, evP, argF, V.cs, binD, fzV, fzL, fzVs, dataVs, dataLs, V.data, L.data, unD, fillL, List.take_succ_cons, List.take_zero, List.drop_succ_cons, List.drop_zero, List.cons_append, ne_eq, Nat.reduceLT, Nat.reduceBEq, ↓reduceIte, Nat.reduceEqDiff, Nat.reduceAdd, Nat.reduceMul, Nat.reduceSub, Int.reduceToNat, Nat.reduceLeDiff, Int.reduceNeg, Int.reduceEq, Int.reduceLT, Int.reduceLE, Int.reduceBEq, Int.reduceBNe, Int.reduceToNat, dis])
  · rw [if_neg c] at p1
    by_cases c1 : b.length ≤ 300
    · (simp (disch := first | decide | omega | (intros; exact Eq.trans rfl rfl) | (simp only [puri]; done)) only [a4, haw, p1, vis, visL, visB, fillR, rowsAt, toDs, toD, ↓ops_cons, ↓ops_consz, fzTs, fzLs, rg, rd, o, oz, kc, kb, ks, kx, on, og, od, ogd, A.run, evI, evOpt, evs, evP, argF, V.cs, binD, fzV, fzL, fzVs, dataVs, dataLs, V.data, L.data, unD, fillL, List.take_succ_cons, List.take_zero, List.drop_succ_cons, List.drop_zero, List.cons_append, ne_eq, Nat.reduceLT, Nat.reduceBEq, ↓reduceIte, Nat.reduceEqDiff, Nat.reduceAdd, Nat.reduceMul, Nat.reduceSub, Int.reduceToNat, Nat.reduceLeDiff, Int.reduceNeg, Int.reduceEq, Int.reduceLT, Int.reduceLE, Int.reduceBEq, Int.reduceBNe, Int.reduceToNat, dis])
    · (simp (disch := first | decide | omega | (intros; exact Eq.trans rfl rfl) | (simp only [puri]; done)) only [a4, haw, p1, vis, visL, visB, fillR, rowsAt, toDs, toD, ↓ops_cons, ↓ops_consz, fzTs, fzLs, rg, rd, o, oz, kc, kb, ks, kx, on, og, od, ogd, A.run, evI, evOpt, evs, evP, argF, V.cs, binD, fzV, fzL, fzVs, dataVs, dataLs, V.data, L.data, unD, fillL, List.take_succ_cons, List.take_zero, List.drop_succ_cons, List.drop_zero, List.cons_append, ne_eq, Nat.reduceLT, Nat.reduceBEq, ↓reduceIte, Nat.reduceEqDiff, Nat.reduceAdd, Nat.reduceMul, Nat.reduceSub, Int.reduceToNat, Nat.reduceLeDiff, Int.reduceNeg, Int.reduceEq, Int.reduceLT, Int.reduceLE, Int.reduceBEq, Int.reduceBNe, Int.reduceToNat, dis])
end Go.Proofs.Ytgcamaneelgejaa
