import Derived.Test.YtogleebbifpijaaW91
set_option linter.unusedSimpArgs false
set_option linter.unusedVariables false
namespace Go.Proofs.Ytogleebbifpijaa
open Go.Vi
set_option linter.unusedSimpArgs false

def xr (a : Int) : Int := IntKind.i64.wrap (BitVec.ofInt 64 a ^^^ BitVec.ofInt 64 1).toNat
theorem xr_bin (a : Int) : binD .xor (.i .i64 a) (.i .i64 1) = some (.i .i64 (xr a)) := rfl
theorem ofInt_wrap (n : Int) : BitVec.ofInt 64 (IntKind.i64.wrap n) = BitVec.ofInt 64 n := by
  apply BitVec.eq_of_toInt_eq
  rw [BitVec.toInt_ofInt, BitVec.toInt_ofInt]
  have e : IntKind.i64.wrap n = n ∨ ∃ k : Int, IntKind.i64.wrap n = n + k * 18446744073709551616 := by
    right
    have hd : n % 18446744073709551616 = n - 18446744073709551616 * (n / 18446744073709551616) := by omega
    unfold IntKind.wrap
    simp only [show IntKind.i64.bits = 64 from rfl, show IntKind.i64.signed = true from rfl, true_and, Int.reducePow, Nat.reduceSub]
    split
    · exact ⟨-(n / 18446744073709551616) - 1, by omega⟩
    · exact ⟨-(n / 18446744073709551616), by omega⟩
  rcases e with e | ⟨k, e⟩
  · rw [e]
  · rw [e]
    exact Int.add_mul_bmod_self_right n k 18446744073709551616
theorem xr_ne (a : Int) : xr a ≠ a := by
  intro h
  have h1 : BitVec.ofInt 64 (xr a) = BitVec.ofInt 64 a := by rw [h]
  unfold xr at h1
  rw [ofInt_wrap] at h1
  have h2 : BitVec.ofInt 64 (((BitVec.ofInt 64 a ^^^ BitVec.ofInt 64 1).toNat : Nat) : Int) = BitVec.ofInt 64 a ^^^ BitVec.ofInt 64 1 := by
    rw [BitVec.ofInt_natCast, BitVec.ofNat_toNat, BitVec.setWidth_eq]
  rw [h2] at h1
  have h3 : BitVec.ofInt 64 a ^^^ (BitVec.ofInt 64 a ^^^ BitVec.ofInt 64 1) = BitVec.ofInt 64 a ^^^ BitVec.ofInt 64 a := by rw [h1]
  rw [← BitVec.xor_assoc, BitVec.xor_self, BitVec.zero_xor] at h3
  exact absurd h3 (by decide)

set_option maxRecDepth 8000 in
set_option maxHeartbeats 4000000 in
theorem wireSame_law1 (m n : Msg) (hm : m.ok) (hn : n.ok) : call 6 [.agg (msgL m), .agg (msgL n)] [] = some (vb true, []) := by
  apply enterS s6 rfl
  have haw := wAwake_spec
  have hsm := small_spec m hm
  have hsn := small_spec n hn
  cases c : smallM m with
  | false =>
    rw [c] at hsm
    simp only [msgL] at hsm hsn
    (simp (disch := first | decide | omega | (intros; exact Eq.trans rfl rfl) | (simp only [puri]; done)) only [a6, msgL, hsm, haw, vis, visL, visB, fillR, rowsAt, toDs, toD, ↓ops_cons, ↓ops_consz, fzTs, fzLs, rg, rd, o, oz, kc, kb, ks, kx, on, og, od, ogd, A.run, evI, evOpt, evs, evP, argF, V.cs, binD, fzV, fzL, fzVs, dataVs, dataLs, V.data, L.data, unD, fillL, List.take_succ_cons, List.take_zero, List.drop_succ_cons, List.drop_zero, List.cons_append, ne_eq, Nat.reduceLT, Nat.reduceBEq, ↓reduceIte, Nat.reduceEqDiff, Nat.reduceAdd, Nat.reduceMul, Nat.reduceSub, Int.reduceToNat, Nat.reduceLeDiff, Int.reduceNeg, Int.reduceEq, Int.reduceLT, Int.reduceLE, Int.reduceBEq, Int.reduceBNe, Int.reduceToNat, dis])
    try simp [trim]
  | true =>
    rw [c] at hsm
    cases c2 : smallM n with
    | false =>
      rw [c2] at hsn
      simp only [msgL] at hsm hsn
      (simp (disch := first | decide | omega | (intros; exact Eq.trans rfl rfl) | (simp only [puri]; done)) only [a6, msgL, hsm, hsn, haw, vis, visL, visB, fillR, rowsAt, toDs, toD, ↓ops_cons, ↓ops_consz, fzTs, fzLs, rg, rd, o, oz, kc, kb, ks, kx, on, og, od, ogd, A.run, evI, evOpt, evs, evP, argF, V.cs, binD, fzV, fzL, fzVs, dataVs, dataLs, V.data, L.data, unD, fillL, List.take_succ_cons, List.take_zero, List.drop_succ_cons, List.drop_zero, List.cons_append, ne_eq, Nat.reduceLT, Nat.reduceBEq, ↓reduceIte, Nat.reduceEqDiff, Nat.reduceAdd, Nat.reduceMul, Nat.reduceSub, Int.reduceToNat, Nat.reduceLeDiff, Int.reduceNeg, Int.reduceEq, Int.reduceLT, Int.reduceLE, Int.reduceBEq, Int.reduceBNe, Int.reduceToNat, dis])
      try simp [trim]
    | true =>
      rw [c2] at hsn
      have ht := small_t c
      have hu := small_t c2
      have p1 := same16_spec m m (by omega) (by omega)
      have p2 := same16_spec m n (by omega) (by omega)
      have p3 := refSame16_spec m n (by omega)
      have p4 := same16_spec m { m with seq := xr m.seq } (by omega) (by simp only []; omega)
      have p5 := same16_spec m { m with recs := m.recs ++ [⟨0, 0, []⟩] } (by omega) (by simp only [List.length_append, List.length_cons, List.length_nil]; omega)
      rw [decide_eq_true rfl] at p1
      rw [decide_eq_false (msg_ne (by simp only []; right; right; right; right; right; left; exact fun h => xr_ne m.seq h.symm))] at p4
      rw [decide_eq_false (fun h => by have := congrArg (fun q : Msg => q.recs.length) h; simp at this)] at p5
      have hx := xr_bin m.seq
      have hbb : (decide (m = n) == decide (m = n)) = true := beq_self_eq_true _
      simp only [msgL, List.map_append, List.map_cons, List.map_nil, Rec.enc] at p1 p2 p3 p4 p5 hsm hsn
      have htk : (List.map Rec.enc m.recs ++ [[D.i IntKind.i64 0, D.i IntKind.i64 0, D.s []]]).take (m.recs.length + 1) = List.map Rec.enc m.recs ++ [[D.i IntKind.i64 0, D.i IntKind.i64 0, D.s []]] := List.take_of_length_le (by simp)
      generalize decide (m = n) = z at *
      (simp (disch := first | decide | omega | (intros; exact Eq.trans rfl rfl) | (simp only [puri]; done)) only [a6, msgL, hsm, hsn, haw, p1, p2, p3, p4, p5, ↓hx, hbb, Rec.enc, htk, vis, visL, visB, fillR, rowsAt, toDs, toD, ↓ops_cons, ↓ops_consz, fzTs, fzLs, rg, rd, o, oz, kc, kb, ks, kx, on, og, od, ogd, A.run, evI, evOpt, evs, evP, argF, V.cs, binD, fzV, fzL, fzVs, dataVs, dataLs, V.data, L.data, unD, fillL, List.take_succ_cons, List.take_zero, List.drop_succ_cons, List.drop_zero, List.cons_append, ne_eq, Nat.reduceLT, Nat.reduceBEq, ↓reduceIte, Nat.reduceEqDiff, Nat.reduceAdd, Nat.reduceMul, Nat.reduceSub, Int.reduceToNat, Nat.reduceLeDiff, Int.reduceNeg, Int.reduceEq, Int.reduceLT, Int.reduceLE, Int.reduceBEq, Int.reduceBNe, Int.reduceToNat, dis])
      try simp [trim]
theorem wireSame_pure (xs : List V) (h : wfAs [(true, [.i .i64, .i .i64, .i .i64, .i .i64, .i .i64, .i .i64, .i .i64, .i .i64, .i .i64, .i .i64, .i .i64, .i .i64, .i .u32, .s, .l [.i .i64, .i .i64, .s]]), (true, [.i .i64, .i .i64, .i .i64, .i .i64, .i .i64, .i .i64, .i .i64, .i .i64, .i .i64, .i .i64, .i .i64, .i .i64, .i .u32, .s, .l [.i .i64, .i .i64, .s]])] xs) : call 6 xs [] = some (vb true, []) := by
  simp only [wfAs, wfA] at h
  obtain ⟨_, _, rfl, ⟨d, rfl, hd⟩, _, _, rfl, ⟨e, rfl, he⟩, rfl⟩ := h
  obtain ⟨m, rfl, hm⟩ := Msg.of d hd
  obtain ⟨n, rfl, hn⟩ := Msg.of e he
  exact wireSame_law1 m n hm hn
end Go.Proofs.Ytogleebbifpijaa
