import Derived.Test.YtogleebbifpijaaW92
set_option linter.unusedSimpArgs false
set_option linter.unusedVariables false
namespace Go.Proofs.Ytogleebbifpijaa
open Go.Vi
set_option linter.unusedSimpArgs false

theorem numsB_ge : ∀ (l : List Int), l.length ≤ (numsB l).length
  | [] => Nat.zero_le _
  | n :: l => by
    have := numsB_ge l
    have h := nd_pos n.toNat
    unfold nd at h
    rw [numsB_cons, List.length_append, List.length_cons]; omega
theorem body_ge (m : Msg) : 7 ≤ (bodyM m).length := by
  have := numsB_ge (headNs m)
  unfold bodyM
  rw [List.length_append]
  have e : (headNs m).length = 7 := rfl
  omega
theorem body_le (m : Msg) (h : rightM m = true) (hd : m.da.length ≤ 5000) : (bodyM m).length ≤ 60000 := by
  have hp := rightP h
  have hn := headNs_nat hp
  have h7 := numsB_len (headNs m) hn
  have e : (headNs m).length = 7 := rfl
  have hh := hp.h
  have w1 : natI m.win := by unfold natI; omega
  have w2 : natI m.want := by unfold natI; omega
  have w3 : natI m.idx := by unfold natI; omega
  have w4 : natI m.high := by unfold natI; omega
  have w5 : natI m.size := by unfold natI; omega
  have ht : (tailBy m).length ≤ 50000 := by
    unfold tailBy
    split
    · have := numsB_len [m.win, m.want, m.idx] (by intro n hn; simp at hn; rcases hn with rfl | rfl | rfl <;> assumption)
      simp only [List.length_cons, List.length_nil] at this
      omega
    · split
      · rename_i k1 k
        have ht := hp.t
        simp only [tailB, if_neg k1, if_pos k, Bool.and_eq_true, decide_eq_true_eq] at ht
        have w6 : natI (m.recs.length : Int) := by unfold natI; omega
        have := numsB_len [m.high, (m.recs.length : Int)] (by intro n hn; simp at hn; rcases hn with rfl | rfl <;> assumption)
        have h3 := recsB_len m.recs (rowB_right m.recs m.at_ ht.1.1) m.recs.length (Nat.le_refl _)
        rw [List.take_length] at h3
        simp only [List.length_cons, List.length_nil] at this
        rw [List.length_append]
        have := ht.1.2
        have : 82 * m.recs.length ≤ 82 * 64 := Nat.mul_le_mul_left _ this
        omega
      · have := numsB_len [m.size, m.idx] (by intro n hn; simp at hn; rcases hn with rfl | rfl <;> assumption)
        simp only [List.length_cons, List.length_nil] at this
        rw [List.length_append, List.length_append, four_len]
        omega
  unfold bodyM
  rw [List.length_append]
  omega
theorem getW_cut (b : List UInt8) (j : Nat) (h1 : 1 ≤ b.length) (h2 : b.length ≤ 65536) (hj : j < (frameF b).length) : getW ((frameF b).take j) = (zmsg, 2) := by
  have e : nextF ((frameF b).take j) 0 = ([], 0, 2) := by
    by_cases h : j = 0
    · subst h; rfl
    · have := nextF_cut [] b j h1 h2 (by omega) hj
      simpa using this
  unfold getW; rw [e]; rfl
theorem getW_turned (b : List UInt8) (k : Nat) (x : UInt8) (h1 : 1 ≤ b.length) (h2 : b.length ≤ 65536) (hk : nd b.length ≤ k) (hk2 : k < (frameF b).length) (hx : x ≠ (frameF b)[k]'hk2) : getW ((frameF b).set k x) = (zmsg, 4) := by
  unfold getW; rw [nextF_turned b k x h1 h2 hk hk2 hx]; rfl

set_option maxRecDepth 8000 in
set_option maxHeartbeats 8000000 in
theorem wireBack_law1 (m : Msg) (hm : m.ok) (a : Nat) (d : UInt8) (ha : a < 65536) : call 5 [.agg (msgL m), vk .u16 ((a : Nat) : Int), vk .u8 ((d.toNat : Nat) : Int)] [] = some (vb true, []) := by
  apply enterS s5 rfl
  have haw := wAwake_spec
  have hsm := small_spec m hm
  cases c : smallM m with
  | false =>
    rw [c] at hsm
    simp only [msgL] at hsm
    (simp (disch := first | decide | omega | (intros; exact Eq.trans rfl rfl) | (simp only [puri]; done)) only [a5, msgL, hsm, haw, vis, visL, visB, fillR, rowsAt, toDs, toD, ↓ops_cons, ↓ops_consz, fzTs, fzLs, rg, rd, o, oz, kc, kb, ks, kx, on, og, od, ogd, A.run, evI, evOpt, evs, evP, argF, V.cs, binD, fzV, fzL, fzVs, dataVs, dataLs, V.data, L.data, unD, fillL, List.take_succ_cons, List.take_zero, List.drop_succ_cons, List.drop_zero, List.cons_append, ne_eq, Nat.reduceLT, Nat.reduceBEq, ↓reduceIte, Nat.reduceEqDiff, Nat.reduceAdd, Nat.reduceMul, Nat.reduceSub, Int.reduceToNat, Nat.reduceLeDiff, Int.reduceNeg, Int.reduceEq, Int.reduceLT, Int.reduceLE, Int.reduceBEq, Int.reduceBNe, Int.reduceToNat, dis])
    try simp [trim]
  | true =>
    rw [c] at hsm
    have ht := small_t c
    have p1 := put16_spec m hm (by omega) (by omega)
    have p5 := right16_spec m (by omega) hm.h_all hm.h_at_
    unfold putM putV at p1
    cases r : rightM m with
    | false =>
      rw [r] at p1 p5
      simp only [msgL, Bool.false_eq_true, ↓reduceIte] at hsm p1 p5
      have hz : (([] : List UInt8) == []) = true := by decide
      (simp (disch := first | decide | omega | (intros; exact Eq.trans rfl rfl) | (simp only [puri]; done)) only [a5, msgL, hsm, haw, p1, p5, hz, vis, visL, visB, fillR, rowsAt, toDs, toD, ↓ops_cons, ↓ops_consz, fzTs, fzLs, rg, rd, o, oz, kc, kb, ks, kx, on, og, od, ogd, A.run, evI, evOpt, evs, evP, argF, V.cs, binD, fzV, fzL, fzVs, dataVs, dataLs, V.data, L.data, unD, fillL, List.take_succ_cons, List.take_zero, List.drop_succ_cons, List.drop_zero, List.cons_append, ne_eq, Nat.reduceLT, Nat.reduceBEq, ↓reduceIte, Nat.reduceEqDiff, Nat.reduceAdd, Nat.reduceMul, Nat.reduceSub, Int.reduceToNat, Nat.reduceLeDiff, Int.reduceNeg, Int.reduceEq, Int.reduceLT, Int.reduceLE, Int.reduceBEq, Int.reduceBNe, Int.reduceToNat, dis])
      try simp [trim]
    | true =>
      have hb1 := body_ge m
      have hb2 := body_le m r (by omega)
      have hgb := get_back m r ⟨hm.h_sum.1, hm.h_sum.2⟩ ⟨by omega, by omega⟩
      rw [r] at p1 p5
      rw [if_pos rfl, if_pos ⟨by omega, by omega⟩] at p1
      have hl := frameF_len (bodyM m)
      have hn := nd_pos (bodyM m).length
      have h9 := nd_le9 (n := (bodyM m).length) (by omega)
      have p3 := get16_spec (frameF (bodyM m)) (by omega)
      rw [hgb] at p3
      have p4 := refSame16_spec m m (by omega)
      rw [decide_eq_true rfl] at p4
      have hmod : a % (frameF (bodyM m)).length < (frameF (bodyM m)).length := Nat.mod_lt _ (by omega)
      obtain ⟨j, hj⟩ : ∃ j, j = a % (frameF (bodyM m)).length := ⟨_, rfl⟩
      have hrem : ((a : Nat) : Int).tmod (((frameF (bodyM m)).length : Nat) : Int) = ((j : Nat) : Int) := by
        rw [Int.tmod_eq_emod_of_nonneg (by omega), hj]; simp
      rw [← hj] at hmod
      have p6 := get16_spec ((frameF (bodyM m)).take j) (by simp; omega)
      rw [getW_cut _ _ (by omega) (by omega) hmod] at p6
      have hrem7 : ((a : Nat) : Int).tmod 7 = ((a % 7 : Nat) : Int) := by
        rw [Int.tmod_eq_emod_of_nonneg (by omega)]; simp
      obtain ⟨k, hk⟩ : ∃ k, k = (frameF (bodyM m)).length - 1 - a % 7 := ⟨_, rfl⟩
      have hk2 : k < (frameF (bodyM m)).length := by omega
      have hk1 : nd (bodyM m).length ≤ k := by omega
      have hw1 : IntKind.i64.wrap ((((frameF (bodyM m)).length : Nat) : Int) - 1) = (((frameF (bodyM m)).length - 1 : Nat) : Int) := by rw [wrap_i (by omega)]; omega
      have hw2 : IntKind.i64.wrap ((((frameF (bodyM m)).length - 1 : Nat) : Int) - ((a % 7 : Nat) : Int)) = ((k : Nat) : Int) := by rw [wrap_i (by omega)]; omega
      have hg := rowsOfBytes_get (frameF (bodyM m)) k hk2
      have hx := xor8 ((frameF (bodyM m))[k]'hk2) d
      have hs := rowsOfBytes_set (frameF (bodyM m)) k ((frameF (bodyM m))[k]'hk2 ^^^ d)
      have hsl : ((frameF (bodyM m)).set k ((frameF (bodyM m))[k]'hk2 ^^^ d)).length = (frameF (bodyM m)).length := by simp
      have htk : (rowsOfBytes ((frameF (bodyM m)).set k ((frameF (bodyM m))[k]'hk2 ^^^ d))).take (frameF (bodyM m)).length = rowsOfBytes ((frameF (bodyM m)).set k ((frameF (bodyM m))[k]'hk2 ^^^ d)) :=
        List.take_of_length_le (by rw [rowsOfBytes_len]; simp)
      have p7 := get16_spec ((frameF (bodyM m)).set k ((frameF (bodyM m))[k]'hk2 ^^^ d)) (by rw [hsl]; omega)
      have hlt7 : ((((frameF (bodyM m)).length : Nat) : Int) < 7) = False := eq_false (by omega)
      have hne : ((((frameF (bodyM m)).length : Nat) : Int) = 0) = False := eq_false (by omega)
      have ht7 : ∀ d0 : UInt8, d0 ≠ 0 → getW ((frameF (bodyM m)).set k ((frameF (bodyM m))[k]'hk2 ^^^ d0)) = (zmsg, 4) := fun d0 h0 => getW_turned (bodyM m) k _ (by omega) (by omega) hk1 hk2 (xor8_ne h0)
      have hle : (frameF (bodyM m)).length ≤ 70000 := by omega
      have hge : 12 ≤ (frameF (bodyM m)).length := by omega
      generalize (frameF (bodyM m))[k]'hk2 = y at *
      generalize frameF (bodyM m) = w at *
      by_cases hd : d = 0
      · subst hd
        obtain ⟨⟨g, ge⟩, hgg⟩ : ∃ x, getW (w.set k (y ^^^ 0)) = x := ⟨_, rfl⟩
        rw [hgg] at p7
        simp only [getV, msgL, zmsg, List.map_nil] at *
        have e0 : (((0 : UInt8).toNat : Nat) : Int) = 0 := rfl
        rw [e0] at hx
        generalize w.set k (y ^^^ 0) = w2 at *
        (simp (disch := first | decide | omega | (intros; exact Eq.trans rfl rfl) | (simp only [puri]; done)) only [a5, msgL, hsm, haw, p1, p5, p3, p4, hne, hrem, p6, hrem7, hlt7, hw1, hw2, hg, ↓hx, hs, rowsOfBytes_len, hsl, htk, bytesOf_rows, p7, e0, vis, visL, visB, fillR, rowsAt, toDs, toD, ↓ops_cons, ↓ops_consz, fzTs, fzLs, rg, rd, o, oz, kc, kb, ks, kx, on, og, od, ogd, A.run, evI, evOpt, evs, evP, argF, V.cs, binD, fzV, fzL, fzVs, dataVs, dataLs, V.data, L.data, unD, fillL, List.take_succ_cons, List.take_zero, List.drop_succ_cons, List.drop_zero, List.cons_append, ne_eq, Nat.reduceLT, Nat.reduceBEq, ↓reduceIte, Nat.reduceEqDiff, Nat.reduceAdd, Nat.reduceMul, Nat.reduceSub, Int.reduceToNat, Nat.reduceLeDiff, Int.reduceNeg, Int.reduceEq, Int.reduceLT, Int.reduceLE, Int.reduceBEq, Int.reduceBNe, Int.reduceToNat, dis])
        try simp [trim]
      · have hd0 : d.toNat ≠ 0 := fun e => hd (UInt8.toNat_inj.1 (by simpa using e))
        rw [ht7 d hd] at p7
        simp only [getV, msgL, zmsg, List.map_nil] at *
        generalize w.set k (y ^^^ d) = w2 at *
        (simp (disch := first | decide | omega | (intros; exact Eq.trans rfl rfl) | (simp only [puri]; done)) only [a5, msgL, hsm, haw, p1, p5, p3, p4, hne, hrem, p6, hrem7, hlt7, hw1, hw2, hg, ↓hx, hs, rowsOfBytes_len, hsl, htk, bytesOf_rows, p7, vis, visL, visB, fillR, rowsAt, toDs, toD, ↓ops_cons, ↓ops_consz, fzTs, fzLs, rg, rd, o, oz, kc, kb, ks, kx, on, og, od, ogd, A.run, evI, evOpt, evs, evP, argF, V.cs, binD, fzV, fzL, fzVs, dataVs, dataLs, V.data, L.data, unD, fillL, List.take_succ_cons, List.take_zero, List.drop_succ_cons, List.drop_zero, List.cons_append, ne_eq, Nat.reduceLT, Nat.reduceBEq, ↓reduceIte, Nat.reduceEqDiff, Nat.reduceAdd, Nat.reduceMul, Nat.reduceSub, Int.reduceToNat, Nat.reduceLeDiff, Int.reduceNeg, Int.reduceEq, Int.reduceLT, Int.reduceLE, Int.reduceBEq, Int.reduceBNe, Int.reduceToNat, dis])
        try simp [trim]
theorem wireBack_pure (xs : List V) (h : wfAs [(true, [.i .i64, .i .i64, .i .i64, .i .i64, .i .i64, .i .i64, .i .i64, .i .i64, .i .i64, .i .i64, .i .i64, .i .i64, .i .u32, .s, .l [.i .i64, .i .i64, .s]]), (false, [.i .u16]), (false, [.i .u8])] xs) : call 5 xs [] = some (vb true, []) := by
  simp only [wfAs, wfA] at h
  obtain ⟨_, _, rfl, ⟨d, rfl, hd⟩, _, _, rfl, ⟨e, rfl, he⟩, _, _, rfl, ⟨n, rfl, hn⟩, rfl⟩ := h
  obtain ⟨m, rfl, hm⟩ := Msg.of d hd
  simp only [wfRow, wfT] at he hn
  obtain ⟨_, _, e2, ⟨a, rfl, h1, h2⟩, rfl⟩ := he
  obtain ⟨_, _, e3, ⟨c, rfl, h3, h4⟩, rfl⟩ := hn
  cases e2; cases e3
  have h1' : 0 ≤ a := Int.le_trans (by decide) h1
  have h2' : a < 65536 := Int.lt_of_le_of_lt h2 (by decide)
  have h3' : 0 ≤ c := Int.le_trans (by decide) h3
  have h4' : c < 256 := Int.lt_of_le_of_lt h4 (by decide)
  have ea : ((a.toNat : Nat) : Int) = a := Int.toNat_of_nonneg h1'
  have ec : (((UInt8.ofNat c.toNat).toNat : Nat) : Int) = c := by
    rw [UInt8.toNat_ofNat', Nat.mod_eq_of_lt (by omega)]; omega
  have := wireBack_law1 m hm a.toNat (UInt8.ofNat c.toNat) (by omega)
  rw [ea, ec] at this
  exact this
end Go.Proofs.Ytogleebbifpijaa
