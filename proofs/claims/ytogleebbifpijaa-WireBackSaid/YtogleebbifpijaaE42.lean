import Derived.Test.YtogleebbifpijaaE41
set_option linter.unusedSimpArgs false
set_option linter.unusedVariables false
namespace Go.Proofs.Ytogleebbifpijaa
open Go.Vi
set_option linter.unusedSimpArgs false

theorem right_spec (r : Rec) (hr : r.ok) : call 50 [.agg (r.enc.map .d)] [] = some (vb (decide (whyF r = 0)), []) := by
  apply enterS s50 rfl
  have h := check_spec r hr
  (simp (disch := first | decide | omega | (intros; exact Eq.trans rfl rfl) | (simp only [puri]; done)) only [a50, Rec.len, Rec.tkL, Rec.dat, Rec.lenL, h, vis, visL, visB, fillR, rowsAt, toDs, toD, ↓ops_cons, ↓ops_consz, fzTs, fzLs, rg, rd, o, oz, kc, kb, ks, kx, on, og, od, ogd, A.run, evI, evOpt, evs, evP, argF, V.cs, binD, fzV, fzL, fzVs, dataVs, dataLs, V.data, L.data, unD, fillL, List.take_succ_cons, List.take_zero, List.drop_succ_cons, List.drop_zero, List.cons_append, ne_eq, Nat.reduceLT, Nat.reduceBEq, ↓reduceIte, Nat.reduceEqDiff, Nat.reduceAdd, Nat.reduceMul, Nat.reduceSub, Int.reduceToNat, Nat.reduceLeDiff, Int.reduceNeg, Int.reduceEq, Int.reduceLT, Int.reduceLE, Int.reduceBEq, Int.reduceBNe, Int.reduceToNat, dis])
  rfl
theorem refRight_spec (r : Rec) : call 34 [.agg (r.enc.map .d)] [] = some (vb (decide (whyF r = 0)), []) := by
  apply enterS s34 rfl
  have f1 := within_spec r.at_
  have f2 := within_spec r.ti
  unfold whyF
  cases c1 : offN r.at_ with
  | false =>
    rw [c1] at f1
    (simp (disch := first | decide | omega | (intros; exact Eq.trans rfl rfl) | (simp only [puri]; done)) only [a34, Rec.len, Rec.tkL, Rec.dat, Rec.lenL, Rec.fd0, Rec.fd1, Rec.fd2, Rec.at0, Rec.at1, Rec.at2, f1, f2, vis, visL, visB, fillR, rowsAt, toDs, toD, ↓ops_cons, ↓ops_consz, fzTs, fzLs, rg, rd, o, oz, kc, kb, ks, kx, on, og, od, ogd, A.run, evI, evOpt, evs, evP, argF, V.cs, binD, fzV, fzL, fzVs, dataVs, dataLs, V.data, L.data, unD, fillL, List.take_succ_cons, List.take_zero, List.drop_succ_cons, List.drop_zero, List.cons_append, ne_eq, Nat.reduceLT, Nat.reduceBEq, ↓reduceIte, Nat.reduceEqDiff, Nat.reduceAdd, Nat.reduceMul, Nat.reduceSub, Int.reduceToNat, Nat.reduceLeDiff, Int.reduceNeg, Int.reduceEq, Int.reduceLT, Int.reduceLE, Int.reduceBEq, Int.reduceBNe, Int.reduceToNat, dis])
    try simp
  | true =>
    cases c2 : offN r.ti with
    | false =>
      rw [c1] at f1; rw [c2] at f2
      (simp (disch := first | decide | omega | (intros; exact Eq.trans rfl rfl) | (simp only [puri]; done)) only [a34, Rec.len, Rec.tkL, Rec.dat, Rec.lenL, Rec.fd0, Rec.fd1, Rec.fd2, Rec.at0, Rec.at1, Rec.at2, f1, f2, vis, visL, visB, fillR, rowsAt, toDs, toD, ↓ops_cons, ↓ops_consz, fzTs, fzLs, rg, rd, o, oz, kc, kb, ks, kx, on, og, od, ogd, A.run, evI, evOpt, evs, evP, argF, V.cs, binD, fzV, fzL, fzVs, dataVs, dataLs, V.data, L.data, unD, fillL, List.take_succ_cons, List.take_zero, List.drop_succ_cons, List.drop_zero, List.cons_append, ne_eq, Nat.reduceLT, Nat.reduceBEq, ↓reduceIte, Nat.reduceEqDiff, Nat.reduceAdd, Nat.reduceMul, Nat.reduceSub, Int.reduceToNat, Nat.reduceLeDiff, Int.reduceNeg, Int.reduceEq, Int.reduceLT, Int.reduceLE, Int.reduceBEq, Int.reduceBNe, Int.reduceToNat, dis])
      try simp
    | true =>
      rw [c1] at f1; rw [c2] at f2
      by_cases c3 : r.da.length ≤ 64
      · (simp (disch := first | decide | omega | (intros; exact Eq.trans rfl rfl) | (simp only [puri]; done)) only [a34, Rec.len, Rec.tkL, Rec.dat, Rec.lenL, Rec.fd0, Rec.fd1, Rec.fd2, Rec.at0, Rec.at1, Rec.at2, f1, f2, vis, visL, visB, fillR, rowsAt, toDs, toD, ↓ops_cons, ↓ops_consz, fzTs, fzLs, rg, rd, o, oz, kc, kb, ks, kx, on, og, od, ogd, A.run, evI, evOpt, evs, evP, argF, V.cs, binD, fzV, fzL, fzVs, dataVs, dataLs, V.data, L.data, unD, fillL, List.take_succ_cons, List.take_zero, List.drop_succ_cons, List.drop_zero, List.cons_append, ne_eq, Nat.reduceLT, Nat.reduceBEq, ↓reduceIte, Nat.reduceEqDiff, Nat.reduceAdd, Nat.reduceMul, Nat.reduceSub, Int.reduceToNat, Nat.reduceLeDiff, Int.reduceNeg, Int.reduceEq, Int.reduceLT, Int.reduceLE, Int.reduceBEq, Int.reduceBNe, Int.reduceToNat, dis])
        try simp [c3]
      · (simp (disch := first | decide | omega | (intros; exact Eq.trans rfl rfl) | (simp only [puri]; done)) only [a34, Rec.len, Rec.tkL, Rec.dat, Rec.lenL, Rec.fd0, Rec.fd1, Rec.fd2, Rec.at0, Rec.at1, Rec.at2, f1, f2, vis, visL, visB, fillR, rowsAt, toDs, toD, ↓ops_cons, ↓ops_consz, fzTs, fzLs, rg, rd, o, oz, kc, kb, ks, kx, on, og, od, ogd, A.run, evI, evOpt, evs, evP, argF, V.cs, binD, fzV, fzL, fzVs, dataVs, dataLs, V.data, L.data, unD, fillL, List.take_succ_cons, List.take_zero, List.drop_succ_cons, List.drop_zero, List.cons_append, ne_eq, Nat.reduceLT, Nat.reduceBEq, ↓reduceIte, Nat.reduceEqDiff, Nat.reduceAdd, Nat.reduceMul, Nat.reduceSub, Int.reduceToNat, Nat.reduceLeDiff, Int.reduceNeg, Int.reduceEq, Int.reduceLT, Int.reduceLE, Int.reduceBEq, Int.reduceBNe, Int.reduceToNat, dis])
        try simp [c3]

/-! a record's body and frame -/
def bodyF (r : Rec) : List UInt8 := enc128 r.at_.toNat ++ enc128 r.ti.toNat ++ r.da
structure Fit (r : Rec) : Prop where
  a0 : 0 ≤ r.at_
  a1 : r.at_ ≤ 1099511627776
  t0 : 0 ≤ r.ti
  t1 : r.ti ≤ 1099511627776
  d : r.da.length ≤ 64
theorem why_fit {r : Rec} : whyF r = 0 ↔ Fit r := by
  unfold whyF
  constructor
  · intro h
    split at h
    · rename_i c
      have c1 := offN_t c.1
      have c2 := offN_t c.2
      split at h
      · exact ⟨c1.1, c1.2, c2.1, c2.2, by assumption⟩
      · cases h
    · cases h
  · intro h
    have c1 : offN r.at_ = true := by simp [offN, h.a0, h.a1]
    have c2 : offN r.ti = true := by simp [offN, h.t0, h.t1]
    rw [if_pos ⟨c1, c2⟩, if_pos h.d]
theorem nd_le6 {n : Nat} (h : n ≤ 1099511627776) : nd n ≤ 6 := by
  have hp := nd_pos n
  rcases Nat.lt_or_ge 6 (nd n) with h6 | h6
  · have := (nd_range (nd n - 1) n).1 (by omega)
    rcases this.2 with h0 | h0
    · omega
    · have : (128 : Nat) ^ 6 ≤ 128 ^ (nd n - 1) := Nat.pow_le_pow_right (by decide) (by omega)
      have e : (128 : Nat) ^ 6 = 4398046511104 := by decide
      omega
  · exact h6
theorem body_len (r : Rec) : (bodyF r).length = nd r.at_.toNat + nd r.ti.toNat + r.da.length := by simp [bodyF, nd, Nat.add_assoc]
theorem Fit.blen {r : Rec} (h : Fit r) : 2 ≤ (bodyF r).length ∧ (bodyF r).length ≤ 76 := by
  have h1 := nd_le6 (n := r.at_.toNat) (by have := h.a0; have := h.a1; omega)
  have h2 := nd_le6 (n := r.ti.toNat) (by have := h.t0; have := h.t1; omega)
  have h3 := nd_pos r.at_.toNat
  have h4 := nd_pos r.ti.toNat
  have := h.d
  rw [body_len]; omega
def putR (r : Rec) : V := if whyF r = 0 then .tup [(false, [.d (.s (frameF (bodyF r)))]), (false, [.d (.i .i64 0)])] else .tup [(false, [.d (.s [])]), (false, [.d (.i .i64 (whyF r))])]
theorem putN {n : Int} (h : 0 ≤ n) (h1 : n < 9223372036854775808) : call 40 [vi n] [] = some (vs (enc128 n.toNat), []) := by
  have := put_spec n.toNat (by omega)
  rwa [show ((n.toNat : Nat) : Int) = n by omega] at this
theorem refPutN {n : Int} (h : 0 ≤ n) (h1 : n < 9223372036854775808) : call 36 [vi n] [] = some (vs (enc128 n.toNat), []) := by
  have := refPut_spec n.toNat (by omega)
  rwa [show ((n.toNat : Nat) : Int) = n by omega] at this
theorem lenN {n : Int} (h : 0 ≤ n) (h1 : n < 9223372036854775808) : call 53 [vi n] [] = some (vi (nd n.toNat), []) := by
  have := len_spec n.toNat (by omega)
  rwa [show ((n.toNat : Nat) : Int) = n by omega] at this
def sizeR (r : Rec) : Nat := if whyF r = 0 then (frameF (bodyF r)).length else 0
end Go.Proofs.Ytogleebbifpijaa
