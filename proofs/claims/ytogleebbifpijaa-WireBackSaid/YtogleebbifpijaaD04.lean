import Derived.Test.YtogleebbifpijaaD03
import Derived.Test.YtogleebbifpijaaVic
set_option linter.unusedSimpArgs false
set_option linter.unusedVariables false
namespace Go.Proofs.Ytogleebbifpijaa
open Go.Vi
set_option linter.unusedSimpArgs false

theorem put_neg (n : Int) (hn : n < 0) : call 40 [vi n] [] = some (vs [], []) := by
  apply enterS s40 rfl
  have hl := len_neg n hn
  (simp (disch := first | decide | omega | (intros; exact Eq.trans rfl rfl) | (simp only [puri]; done)) only [a40, hl, Int.zero_mul, vis, visL, visB, fillR, rowsAt, toDs, toD, ↓ops_cons, ↓ops_consz, fzTs, fzLs, rg, rd, o, oz, kc, kb, ks, kx, on, og, od, ogd, A.run, evI, evOpt, evs, evP, argF, V.cs, binD, fzV, fzL, fzVs, dataVs, dataLs, V.data, L.data, unD, fillL, List.take_succ_cons, List.take_zero, List.drop_succ_cons, List.drop_zero, List.cons_append, ne_eq, Nat.reduceLT, Nat.reduceBEq, ↓reduceIte, Nat.reduceEqDiff, Nat.reduceAdd, Nat.reduceMul, Nat.reduceSub, Int.reduceToNat, Nat.reduceLeDiff, Int.reduceNeg, Int.reduceEq, Int.reduceLT, Int.reduceLE, Int.reduceBEq, Int.reduceBNe, Int.reduceToNat, dis])
  refine loop_box (σ := Unit) (fun _ => 0) (fun _ => True) (fun _ => [vi n, .one (.sl 0 1 0 0), vi 0, vi 0]) (fun _ => [.arr 1 [] 0]) (fun _ => (vs [], ([] : Hp))) ?_ () trivial _ _ (at_head2 (by decide) (by simp only [List.map_cons, List.map_nil, vis, visL, visB, fillR, rowsAt, toDs, toD, ↓ops_cons, ↓ops_consz, fzTs, fzLs, rg, rd, o, oz, kc, kb, ks, kx, on, og, od, ogd, A.run, evI, evOpt, evs, evP, argF, V.cs, binD, fzV, fzL, fzVs, dataVs, dataLs, V.data, L.data, unD, fillL, List.take_succ_cons, List.take_zero, List.drop_succ_cons, List.drop_zero, List.cons_append, ne_eq, Nat.reduceLT, Nat.reduceBEq, ↓reduceIte, Nat.reduceEqDiff, Nat.reduceAdd, Nat.reduceMul, Nat.reduceSub, Int.reduceToNat, Nat.reduceLeDiff, Int.reduceNeg, Int.reduceEq, Int.reduceLT, Int.reduceLE, Int.reduceBEq, Int.reduceBNe, Int.reduceToNat]; exact rfl) (by simp [idsOf, reach, place_cons, place_nil, canonH, V.ren, L.ren, Box.ren, V.refs, L.refs, Box.refs, true_and]) (by simp [idsOf, reach, place_cons, place_nil, canonH, V.ren, L.ren, Box.ren, V.refs, L.refs, Box.refs, true_and]))
  intro _ _ R hR
  (simp (disch := first | decide | omega | (intros; exact Eq.trans rfl rfl) | (simp only [puri]; done)) only [a40_0, bytesOf_nil, vis, visL, visB, fillR, rowsAt, toDs, toD, ↓ops_cons, ↓ops_consz, fzTs, fzLs, rg, rd, o, oz, kc, kb, ks, kx, on, og, od, ogd, A.run, evI, evOpt, evs, evP, argF, V.cs, binD, fzV, fzL, fzVs, dataVs, dataLs, V.data, L.data, unD, fillL, List.take_succ_cons, List.take_zero, List.drop_succ_cons, List.drop_zero, List.cons_append, ne_eq, Nat.reduceLT, Nat.reduceBEq, ↓reduceIte, Nat.reduceEqDiff, Nat.reduceAdd, Nat.reduceMul, Nat.reduceSub, Int.reduceToNat, Nat.reduceLeDiff, Int.reduceNeg, Int.reduceEq, Int.reduceLT, Int.reduceLE, Int.reduceBEq, Int.reduceBNe, Int.reduceToNat, dis])

theorem put_spec (n : Nat) (hn : n < 9223372036854775808) : call 40 [vi n] [] = some (vs (enc128 n), []) := by
  apply enterS s40 rfl
  have hl := len_spec n hn
  have h9 := nd_le9 hn
  obtain ⟨m, hm⟩ : ∃ m, nd n = m + 1 := ⟨nd n - 1, by have := nd_pos n; omega⟩
  have hlast := putR_last n m hm
  have hlt : n / 128 ^ m < 128 := by
    have := ((nd_range m n).1 hm).1
    rw [Nat.div_lt_iff_lt_mul (Nat.pow_pos (by decide))]
    rwa [Nat.pow_succ, Nat.mul_comm] at this
  rw [hm] at hl h9
  (simp (disch := first | decide | omega | (intros; exact Eq.trans rfl rfl) | (simp only [puri]; done)) only [a40, hl, Int.mul_one, vis, visL, visB, fillR, rowsAt, toDs, toD, ↓ops_cons, ↓ops_consz, fzTs, fzLs, rg, rd, o, oz, kc, kb, ks, kx, on, og, od, ogd, A.run, evI, evOpt, evs, evP, argF, V.cs, binD, fzV, fzL, fzVs, dataVs, dataLs, V.data, L.data, unD, fillL, List.take_succ_cons, List.take_zero, List.drop_succ_cons, List.drop_zero, List.cons_append, ne_eq, Nat.reduceLT, Nat.reduceBEq, ↓reduceIte, Nat.reduceEqDiff, Nat.reduceAdd, Nat.reduceMul, Nat.reduceSub, Int.reduceToNat, Nat.reduceLeDiff, Int.reduceNeg, Int.reduceEq, Int.reduceLT, Int.reduceLE, Int.reduceBEq, Int.reduceBNe, Int.reduceToNat, dis])
  refine loop_box (σ := Nat) (fun k => m + 1 - k) (fun k => k ≤ m + 1) (fun k => [vi n, .one (.sl 0 1 0 (m + 1)), vi ((m + 1 : Nat) : Int), vi k]) (fun k => [.arr 1 (putR n (m + 1) k) 0]) (fun _ => (vs (enc128 n), ([] : Hp))) ?_ 0 (Nat.zero_le _) _ _ (at_head2 (by decide) (by simp only [List.map_cons, List.map_nil, vis, visL, visB, fillR, rowsAt, toDs, toD, ↓ops_cons, ↓ops_consz, fzTs, fzLs, rg, rd, o, oz, kc, kb, ks, kx, on, og, od, ogd, A.run, evI, evOpt, evs, evP, argF, V.cs, binD, fzV, fzL, fzVs, dataVs, dataLs, V.data, L.data, unD, fillL, List.take_succ_cons, List.take_zero, List.drop_succ_cons, List.drop_zero, List.cons_append, ne_eq, Nat.reduceLT, Nat.reduceBEq, ↓reduceIte, Nat.reduceEqDiff, Nat.reduceAdd, Nat.reduceMul, Nat.reduceSub, Int.reduceToNat, Nat.reduceLeDiff, Int.reduceNeg, Int.reduceEq, Int.reduceLT, Int.reduceLE, Int.reduceBEq, Int.reduceBNe, Int.reduceToNat]; exact rfl) (by simp [idsOf, reach, place_cons, place_nil, canonH, V.ren, L.ren, Box.ren, V.refs, L.refs, Box.refs, putR_zero]) (by simp [idsOf, reach, place_cons, place_nil, canonH, V.ren, L.ren, Box.ren, V.refs, L.refs, Box.refs, putR_zero]))
  intro k hk R hR
  rcases Nat.lt_or_ge k (m + 1) with h | h
  · have hsh : binD .shr (.i .i64 ((n : Nat) : Int)) (.i .u64 (7 * ((k : Nat) : Int))) = some (.i .i64 ((n / 2 ^ (7 * k) : Nat) : Int)) := shr_nat .i64 .u64 n (7 * k) (by show 7 * k ≤ 64; omega)
    have e2 : (2 : Nat) ^ (7 * k) = 128 ^ k := by rw [Nat.pow_mul]
    have hg := putR_get n (m + 1) k k h
    have hs := putR_set n (m + 1) k h
    rw [e2] at hsh
    (simp (disch := first | decide | omega | (intros; exact Eq.trans rfl rfl) | (simp only [puri]; done)) only [a40_0, ↓hsh, wrap8_nat, ↓or8, hg, hs, vis, visL, visB, fillR, rowsAt, toDs, toD, ↓ops_cons, ↓ops_consz, fzTs, fzLs, rg, rd, o, oz, kc, kb, ks, kx, on, og, od, ogd, A.run, evI, evOpt, evs, evP, argF, V.cs, binD, fzV, fzL, fzVs, dataVs, dataLs, V.data, L.data, unD, fillL, List.take_succ_cons, List.take_zero, List.drop_succ_cons, List.drop_zero, List.cons_append, ne_eq, Nat.reduceLT, Nat.reduceBEq, ↓reduceIte, Nat.reduceEqDiff, Nat.reduceAdd, Nat.reduceMul, Nat.reduceSub, Int.reduceToNat, Nat.reduceLeDiff, Int.reduceNeg, Int.reduceEq, Int.reduceLT, Int.reduceLE, Int.reduceBEq, Int.reduceBNe, Int.reduceToNat, dis])
    exact hR (k + 1) (by omega) (by omega) _ _ (at_head2 (by decide) (by simp only [List.map_cons, List.map_nil, vis, visL, visB, fillR, rowsAt, toDs, toD, ↓ops_cons, ↓ops_consz, fzTs, fzLs, rg, rd, o, oz, kc, kb, ks, kx, on, og, od, ogd, A.run, evI, evOpt, evs, evP, argF, V.cs, binD, fzV, fzL, fzVs, dataVs, dataLs, V.data, L.data, unD, fillL, List.take_succ_cons, List.take_zero, List.drop_succ_cons, List.drop_zero, List.cons_append, ne_eq, Nat.reduceLT, Nat.reduceBEq, ↓reduceIte, Nat.reduceEqDiff, Nat.reduceAdd, Nat.reduceMul, Nat.reduceSub, Int.reduceToNat, Nat.reduceLeDiff, Int.reduceNeg, Int.reduceEq, Int.reduceLT, Int.reduceLE, Int.reduceBEq, Int.reduceBNe, Int.reduceToNat]; exact rfl) (by simp [idsOf, reach, place_cons, place_nil, canonH, V.ren, L.ren, Box.ren, V.refs, L.refs, Box.refs, true_and]) (by simp [idsOf, reach, place_cons, place_nil, canonH, V.ren, L.ren, Box.ren, V.refs, L.refs, Box.refs, true_and]))
  · have hk' : k = m + 1 := by omega
    subst hk'
    have hg := putR_get n (m + 1) (m + 1) m (by omega)
    have hd : putD n (m + 1) m = 128 + n / 128 ^ m := by unfold putD; rw [if_pos (by omega), Nat.mod_eq_of_lt hlt]
    rw [hd] at hg
    generalize n / 128 ^ m = q at hlast hlt hg
    have ha := and8 (128 + q) (by omega)
    have hmod : (128 + q) % 128 = q := by omega
    rw [hmod] at ha
    have hpl := putR_len n (m + 1) (m + 1)
    have hw : IntKind.i64.wrap (((m + 1 : Nat) : Int) - 1) = ((m : Nat) : Int) := by rw [wrap_i (by omega)]; omega
    have hel : (enc128 n).length = m + 1 := hm
    have htk : (rowsOfBytes (enc128 n)).take (m + 1) = rowsOfBytes (enc128 n) := List.take_of_length_le (by rw [rowsOfBytes_len, hel]; exact Nat.le_refl _)
    (simp (disch := first | decide | omega | (intros; exact Eq.trans rfl rfl) | (simp only [puri]; done)) only [a40_0, hw, hg, ↓ha, hlast, hpl, rowsOfBytes_len, hel, htk, bytesOf_rows, vis, visL, visB, fillR, rowsAt, toDs, toD, ↓ops_cons, ↓ops_consz, fzTs, fzLs, rg, rd, o, oz, kc, kb, ks, kx, on, og, od, ogd, A.run, evI, evOpt, evs, evP, argF, V.cs, binD, fzV, fzL, fzVs, dataVs, dataLs, V.data, L.data, unD, fillL, List.take_succ_cons, List.take_zero, List.drop_succ_cons, List.drop_zero, List.cons_append, ne_eq, Nat.reduceLT, Nat.reduceBEq, ↓reduceIte, Nat.reduceEqDiff, Nat.reduceAdd, Nat.reduceMul, Nat.reduceSub, Int.reduceToNat, Nat.reduceLeDiff, Int.reduceNeg, Int.reduceEq, Int.reduceLT, Int.reduceLE, Int.reduceBEq, Int.reduceBNe, Int.reduceToNat, dis])

theorem refPut_neg (n : Int) (hn : n < 0) : call 36 [vi n] [] = some (vs [], []) := by
  apply enterS s36 rfl
  (simp (disch := first | decide | omega | (intros; exact Eq.trans rfl rfl) | (simp only [puri]; done)) only [a36, vis, visL, visB, fillR, rowsAt, toDs, toD, ↓ops_cons, ↓ops_consz, fzTs, fzLs, rg, rd, o, oz, kc, kb, ks, kx, on, og, od, ogd, A.run, evI, evOpt, evs, evP, argF, V.cs, binD, fzV, fzL, fzVs, dataVs, dataLs, V.data, L.data, unD, fillL, List.take_succ_cons, List.take_zero, List.drop_succ_cons, List.drop_zero, List.cons_append, ne_eq, Nat.reduceLT, Nat.reduceBEq, ↓reduceIte, Nat.reduceEqDiff, Nat.reduceAdd, Nat.reduceMul, Nat.reduceSub, Int.reduceToNat, Nat.reduceLeDiff, Int.reduceNeg, Int.reduceEq, Int.reduceLT, Int.reduceLE, Int.reduceBEq, Int.reduceBNe, Int.reduceToNat, dis])

theorem refPut_spec (n : Nat) (hn : n < 9223372036854775808) : call 36 [vi n] [] = some (vs (enc128 n), []) := by
  apply enterS s36 rfl
  (simp (disch := first | decide | omega | (intros; exact Eq.trans rfl rfl) | (simp only [puri]; done)) only [a36, vis, visL, visB, fillR, rowsAt, toDs, toD, ↓ops_cons, ↓ops_consz, fzTs, fzLs, rg, rd, o, oz, kc, kb, ks, kx, on, og, od, ogd, A.run, evI, evOpt, evs, evP, argF, V.cs, binD, fzV, fzL, fzVs, dataVs, dataLs, V.data, L.data, unD, fillL, List.take_succ_cons, List.take_zero, List.drop_succ_cons, List.drop_zero, List.cons_append, ne_eq, Nat.reduceLT, Nat.reduceBEq, ↓reduceIte, Nat.reduceEqDiff, Nat.reduceAdd, Nat.reduceMul, Nat.reduceSub, Int.reduceToNat, Nat.reduceLeDiff, Int.reduceNeg, Int.reduceEq, Int.reduceLT, Int.reduceLE, Int.reduceBEq, Int.reduceBNe, Int.reduceToNat, dis])
  refine loop_box (σ := Nat × List UInt8) (fun s => s.1) (fun s => s.1 < 9223372036854775808 ∧ s.2 ++ enc128 s.1 = enc128 n ∧ s.2.length + nd s.1 ≤ 9) (fun s => [vi s.1, vs s.2]) (fun _ => []) (fun _ => (vs (enc128 n), ([] : Hp))) ?_ (n, []) ⟨hn, rfl, by simpa using nd_le9 hn⟩ _ _ (at_head2 (by decide) (by simp only [List.map_cons, List.map_nil, vis, visL, visB, fillR, rowsAt, toDs, toD, ↓ops_cons, ↓ops_consz, fzTs, fzLs, rg, rd, o, oz, kc, kb, ks, kx, on, og, od, ogd, A.run, evI, evOpt, evs, evP, argF, V.cs, binD, fzV, fzL, fzVs, dataVs, dataLs, V.data, L.data, unD, fillL, List.take_succ_cons, List.take_zero, List.drop_succ_cons, List.drop_zero, List.cons_append, ne_eq, Nat.reduceLT, Nat.reduceBEq, ↓reduceIte, Nat.reduceEqDiff, Nat.reduceAdd, Nat.reduceMul, Nat.reduceSub, Int.reduceToNat, Nat.reduceLeDiff, Int.reduceNeg, Int.reduceEq, Int.reduceLT, Int.reduceLE, Int.reduceBEq, Int.reduceBNe, Int.reduceToNat]; exact rfl) (by simp [idsOf, reach, place_cons, place_nil, canonH, V.ren, L.ren, Box.ren, V.refs, L.refs, Box.refs, true_and]) (by simp [idsOf, reach, place_cons, place_nil, canonH, V.ren, L.ren, Box.ren, V.refs, L.refs, Box.refs, true_and]))
  rintro ⟨k, l⟩ ⟨hk, he, hl⟩ R hR
  simp only at hk he hl
  rcases Nat.lt_or_ge k 128 with h | h
  · rw [enc_small h] at he
    have hnd := nd_pos k
    (simp (disch := first | decide | omega | (intros; exact Eq.trans rfl rfl) | (simp only [puri]; done)) only [a36_0, wrap8_nat, bytesOf_nil, bytesOf_cons, byte_mod, vis, visL, visB, fillR, rowsAt, toDs, toD, ↓ops_cons, ↓ops_consz, fzTs, fzLs, rg, rd, o, oz, kc, kb, ks, kx, on, og, od, ogd, A.run, evI, evOpt, evs, evP, argF, V.cs, binD, fzV, fzL, fzVs, dataVs, dataLs, V.data, L.data, unD, fillL, List.take_succ_cons, List.take_zero, List.drop_succ_cons, List.drop_zero, List.cons_append, ne_eq, Nat.reduceLT, Nat.reduceBEq, ↓reduceIte, Nat.reduceEqDiff, Nat.reduceAdd, Nat.reduceMul, Nat.reduceSub, Int.reduceToNat, Nat.reduceLeDiff, Int.reduceNeg, Int.reduceEq, Int.reduceLT, Int.reduceLE, Int.reduceBEq, Int.reduceBNe, Int.reduceToNat, dis])
    rw [he]
  · have hq : ((k : Nat) : Int).tdiv 128 = ((k / 128 : Nat) : Int) := by rw [Int.tdiv_eq_ediv_of_nonneg (by omega)]; omega
    have hr : ((k : Nat) : Int).tmod 128 = ((k % 128 : Nat) : Int) := by rw [Int.tmod_eq_emod_of_nonneg (by omega)]; omega
    rw [enc_big (by omega)] at he
    rw [nd_big (by omega)] at hl
    have hw : IntKind.u8.wrap (128 + ((k % 128 : Nat) : Int)) = ((128 + k % 128 : Nat) : Int) := by rw [wrap_u8 (by omega)]; omega
    have hb : UInt8.ofNat (((128 + k % 128 : Nat) : Int)).toNat = UInt8.ofNat (128 + k % 128) := rfl
    (simp (disch := first | decide | omega | (intros; exact Eq.trans rfl rfl) | (simp only [puri]; done)) only [a36_0, hq, hr, hw, bytesOf_nil, bytesOf_cons, vis, visL, visB, fillR, rowsAt, toDs, toD, ↓ops_cons, ↓ops_consz, fzTs, fzLs, rg, rd, o, oz, kc, kb, ks, kx, on, og, od, ogd, A.run, evI, evOpt, evs, evP, argF, V.cs, binD, fzV, fzL, fzVs, dataVs, dataLs, V.data, L.data, unD, fillL, List.take_succ_cons, List.take_zero, List.drop_succ_cons, List.drop_zero, List.cons_append, ne_eq, Nat.reduceLT, Nat.reduceBEq, ↓reduceIte, Nat.reduceEqDiff, Nat.reduceAdd, Nat.reduceMul, Nat.reduceSub, Int.reduceToNat, Nat.reduceLeDiff, Int.reduceNeg, Int.reduceEq, Int.reduceLT, Int.reduceLE, Int.reduceBEq, Int.reduceBNe, Int.reduceToNat, dis])
    exact hR (k / 128, l ++ [UInt8.ofNat (128 + k % 128)]) (by simp only []; omega) ⟨by simp only []; omega, by simp only []; rw [List.append_assoc]; exact he, by simp only [List.length_append, List.length_cons, List.length_nil]; omega⟩ _ _ (at_head2 (by decide) (by simp only [List.map_cons, List.map_nil, vis, visL, visB, fillR, rowsAt, toDs, toD, ↓ops_cons, ↓ops_consz, fzTs, fzLs, rg, rd, o, oz, kc, kb, ks, kx, on, og, od, ogd, A.run, evI, evOpt, evs, evP, argF, V.cs, binD, fzV, fzL, fzVs, dataVs, dataLs, V.data, L.data, unD, fillL, List.take_succ_cons, List.take_zero, List.drop_succ_cons, List.drop_zero, List.cons_append, ne_eq, Nat.reduceLT, Nat.reduceBEq, ↓reduceIte, Nat.reduceEqDiff, Nat.reduceAdd, Nat.reduceMul, Nat.reduceSub, Int.reduceToNat, Nat.reduceLeDiff, Int.reduceNeg, Int.reduceEq, Int.reduceLT, Int.reduceLE, Int.reduceBEq, Int.reduceBNe, Int.reduceToNat]; exact rfl) (by simp [idsOf, reach, place_cons, place_nil, canonH, V.ren, L.ren, Box.ren, V.refs, L.refs, Box.refs, true_and]) (by simp [idsOf, reach, place_cons, place_nil, canonH, V.ren, L.ren, Box.ren, V.refs, L.refs, Box.refs, true_and]))

end Go.Proofs.Ytogleebbifpijaa
