import Derived.Test.YtogleebbifpijaaD08
import Derived.Test.YtogleebbifpijaaVic
set_option linter.unusedSimpArgs false
set_option linter.unusedVariables false
namespace Go.Proofs.Ytogleebbifpijaa
open Go.Vi
set_option linter.unusedSimpArgs false

structure Rec where
  at_ : Int
  ti : Int
  da : List UInt8
  deriving DecidableEq
def Rec.enc (e : Rec) : List D := [.i .i64 e.at_, .i .i64 e.ti, .s e.da]
theorem Rec.len (e : Rec) : e.enc.length = 3 := Eq.trans rfl rfl
theorem Rec.tk (e : Rec) : e.enc.take 3 = e.enc := Eq.trans rfl rfl
theorem Rec.tkL (e : Rec) : (e.enc.map L.d).take 3 = e.enc.map L.d := Eq.trans rfl rfl
theorem Rec.dat (e : Rec) : dataLs (e.enc.map L.d) = some (e.enc.map L.d) := Eq.trans rfl rfl
theorem Rec.rfs (e : Rec) : (e.enc.map L.d).flatMap L.refs = [] := Eq.trans rfl rfl
theorem Rec.rn (e : Rec) (g : Nat → Option Nat) : (e.enc.map L.d).map (L.ren g) = e.enc.map L.d := Eq.trans rfl rfl
theorem Rec.lenL (e : Rec) : (e.enc.map L.d).length = 3 := Eq.trans rfl rfl
theorem Rec.at0 (e : Rec) : e.enc[0]? = some (.i .i64 e.at_) := Eq.trans rfl rfl
theorem Rec.fd0 (e : Rec) : (e.enc.map L.d)[0]? = some (.d (.i .i64 e.at_)) := Eq.trans rfl rfl
theorem Rec.at1 (e : Rec) : (e.enc.drop 1)[0]? = some (.i .i64 e.ti) := Eq.trans rfl rfl
theorem Rec.fd1 (e : Rec) : (e.enc.map L.d)[1]? = some (.d (.i .i64 e.ti)) := Eq.trans rfl rfl
theorem Rec.at2 (e : Rec) : (e.enc.drop 2)[0]? = some (.s e.da) := Eq.trans rfl rfl
theorem Rec.fd2 (e : Rec) : (e.enc.map L.d)[2]? = some (.d (.s e.da)) := Eq.trans rfl rfl
theorem Rec.up0 (e : Rec) (x : Int) : .i .i64 x :: e.enc.drop 1 = ({ e with at_ := x } : Rec).enc := Eq.trans rfl rfl
theorem Rec.up1 (e : Rec) (x : Int) : e.enc.take 1 ++ [.i .i64 x] ++ e.enc.drop 2 = ({ e with ti := x } : Rec).enc := Eq.trans rfl rfl
theorem Rec.up2 (e : Rec) (x : List UInt8) : e.enc.take 2 ++ [.s x] ++ e.enc.drop 3 = ({ e with da := x } : Rec).enc := Eq.trans rfl rfl
def Rec.ok (e : Rec) : Prop := (-9223372036854775808 ≤ e.at_ ∧ e.at_ < 9223372036854775808) ∧ (-9223372036854775808 ≤ e.ti ∧ e.ti < 9223372036854775808) ∧ e.da.length ≤ 9223372036854775807
def Rec.ty : List Ty := [.i .i64, .i .i64, .s]
theorem Rec.eqs (a b : Rec) : scEqs [0, 0, 2] (a.enc.map L.d) (b.enc.map L.d) = some (decide (a = b)) := by
  cases a; cases b
  simp only [Rec.enc, List.map_cons, List.map_nil, scEqs, scEq, if_true, Rec.mk.injEq]
  congr 1
  rw [Bool.eq_iff_iff]
  simp only [Bool.and_eq_true, beq_iff_eq, decide_eq_true_eq, and_true]
theorem Rec.of (r : List D) (h : wfRow Rec.ty r) : ∃ e : Rec, r = e.enc ∧ e.ok := by
  simp only [Rec.ty, wfRow, wfT] at h
  obtain ⟨_, _, rfl, ⟨x0, rfl, h0, g0⟩, ⟨_, _, rfl, ⟨x1, rfl, h1, g1⟩, ⟨_, _, rfl, ⟨x2, rfl, h2⟩, rfl⟩⟩⟩ := h
  refine ⟨⟨x0, x1, x2⟩, rfl, ?_⟩
  exact ⟨⟨Int.le_trans (by decide) h0, Int.lt_of_le_of_lt g0 (by decide)⟩, ⟨Int.le_trans (by decide) h1, Int.lt_of_le_of_lt g1 (by decide)⟩, h2⟩


/-! may a record be? -/
def offN (n : Int) : Bool := decide (0 ≤ n) && decide (n ≤ 1099511627776)
def whyF (r : Rec) : Int := if offN r.at_ = true ∧ offN r.ti = true then (if r.da.length ≤ 64 then 0 else 5) else 6
theorem offN_t {n : Int} (h : offN n = true) : 0 ≤ n ∧ n ≤ 1099511627776 := by simpa [offN] using h
theorem offN_f {n : Int} (h : offN n = false) : n < 0 ∨ 1099511627776 < n := by
  simp only [offN, Bool.and_eq_false_iff, decide_eq_false_iff_not] at h; omega
theorem far_spec (n : Int) (hn : -9223372036854775808 ≤ n ∧ n < 9223372036854775808) : call 58 [vi n] [] = some (vb (!offN n), []) := by
  apply enterS s58 rfl
  by_cases c : 0 ≤ n
  · by_cases c2 : n ≤ 1099511627776
    · have e : IntKind.u64.wrap n = n := wrap_u64 (by omega)
      have eo : offN n = true := by simp [offN, c, c2]
      (simp (disch := first | decide | omega | (intros; exact Eq.trans rfl rfl) | (simp only [puri]; done)) only [a58, e, eo, vis, visL, visB, fillR, rowsAt, toDs, toD, ↓ops_cons, ↓ops_consz, fzTs, fzLs, rg, rd, o, oz, kc, kb, ks, kx, on, og, od, ogd, A.run, evI, evOpt, evs, evP, argF, V.cs, binD, fzV, fzL, fzVs, dataVs, dataLs, V.data, L.data, unD, fillL, List.take_succ_cons, List.take_zero, List.drop_succ_cons, List.drop_zero, List.cons_append, ne_eq, Nat.reduceLT, Nat.reduceBEq, ↓reduceIte, Nat.reduceEqDiff, Nat.reduceAdd, Nat.reduceMul, Nat.reduceSub, Int.reduceToNat, Nat.reduceLeDiff, Int.reduceNeg, Int.reduceEq, Int.reduceLT, Int.reduceLE, Int.reduceBEq, Int.reduceBNe, Int.reduceToNat, dis])
    · have e : IntKind.u64.wrap n = n := wrap_u64 (by omega)
      have eo : offN n = false := by simp [offN, c, c2]
      (simp (disch := first | decide | omega | (intros; exact Eq.trans rfl rfl) | (simp only [puri]; done)) only [a58, e, eo, vis, visL, visB, fillR, rowsAt, toDs, toD, ↓ops_cons, ↓ops_consz, fzTs, fzLs, rg, rd, o, oz, kc, kb, ks, kx, on, og, od, ogd, A.run, evI, evOpt, evs, evP, argF, V.cs, binD, fzV, fzL, fzVs, dataVs, dataLs, V.data, L.data, unD, fillL, List.take_succ_cons, List.take_zero, List.drop_succ_cons, List.drop_zero, List.cons_append, ne_eq, Nat.reduceLT, Nat.reduceBEq, ↓reduceIte, Nat.reduceEqDiff, Nat.reduceAdd, Nat.reduceMul, Nat.reduceSub, Int.reduceToNat, Nat.reduceLeDiff, Int.reduceNeg, Int.reduceEq, Int.reduceLT, Int.reduceLE, Int.reduceBEq, Int.reduceBNe, Int.reduceToNat, dis])
  · have e : IntKind.u64.wrap n = n + 18446744073709551616 := by
      show n % 18446744073709551616 = _
      omega
    have eo : offN n = false := by simp [offN, c]
    (simp (disch := first | decide | omega | (intros; exact Eq.trans rfl rfl) | (simp only [puri]; done)) only [a58, e, eo, vis, visL, visB, fillR, rowsAt, toDs, toD, ↓ops_cons, ↓ops_consz, fzTs, fzLs, rg, rd, o, oz, kc, kb, ks, kx, on, og, od, ogd, A.run, evI, evOpt, evs, evP, argF, V.cs, binD, fzV, fzL, fzVs, dataVs, dataLs, V.data, L.data, unD, fillL, List.take_succ_cons, List.take_zero, List.drop_succ_cons, List.drop_zero, List.cons_append, ne_eq, Nat.reduceLT, Nat.reduceBEq, ↓reduceIte, Nat.reduceEqDiff, Nat.reduceAdd, Nat.reduceMul, Nat.reduceSub, Int.reduceToNat, Nat.reduceLeDiff, Int.reduceNeg, Int.reduceEq, Int.reduceLT, Int.reduceLE, Int.reduceBEq, Int.reduceBNe, Int.reduceToNat, dis])
theorem within_spec (n : Int) : call 51 [vi n] [] = some (vb (offN n), []) := by
  apply enterS s51 rfl
  by_cases c : 0 ≤ n
  · (simp (disch := first | decide | omega | (intros; exact Eq.trans rfl rfl) | (simp only [puri]; done)) only [a51, offN, c, vis, visL, visB, fillR, rowsAt, toDs, toD, ↓ops_cons, ↓ops_consz, fzTs, fzLs, rg, rd, o, oz, kc, kb, ks, kx, on, og, od, ogd, A.run, evI, evOpt, evs, evP, argF, V.cs, binD, fzV, fzL, fzVs, dataVs, dataLs, V.data, L.data, unD, fillL, List.take_succ_cons, List.take_zero, List.drop_succ_cons, List.drop_zero, List.cons_append, ne_eq, Nat.reduceLT, Nat.reduceBEq, ↓reduceIte, Nat.reduceEqDiff, Nat.reduceAdd, Nat.reduceMul, Nat.reduceSub, Int.reduceToNat, Nat.reduceLeDiff, Int.reduceNeg, Int.reduceEq, Int.reduceLT, Int.reduceLE, Int.reduceBEq, Int.reduceBNe, Int.reduceToNat, dis])
  · (simp (disch := first | decide | omega | (intros; exact Eq.trans rfl rfl) | (simp only [puri]; done)) only [a51, offN, c, Bool.false_and, vis, visL, visB, fillR, rowsAt, toDs, toD, ↓ops_cons, ↓ops_consz, fzTs, fzLs, rg, rd, o, oz, kc, kb, ks, kx, on, og, od, ogd, A.run, evI, evOpt, evs, evP, argF, V.cs, binD, fzV, fzL, fzVs, dataVs, dataLs, V.data, L.data, unD, fillL, List.take_succ_cons, List.take_zero, List.drop_succ_cons, List.drop_zero, List.cons_append, ne_eq, Nat.reduceLT, Nat.reduceBEq, ↓reduceIte, Nat.reduceEqDiff, Nat.reduceAdd, Nat.reduceMul, Nat.reduceSub, Int.reduceToNat, Nat.reduceLeDiff, Int.reduceNeg, Int.reduceEq, Int.reduceLT, Int.reduceLE, Int.reduceBEq, Int.reduceBNe, Int.reduceToNat, dis])
theorem check_spec (r : Rec) (hr : r.ok) : call 55 [.agg (r.enc.map .d)] [] = some (vi (whyF r), []) := by
  apply enterS s55 rfl
  obtain ⟨h1, h2, h3⟩ := hr
  have f1 := far_spec r.at_ h1
  have f2 := far_spec r.ti h2
  unfold whyF
  cases c1 : offN r.at_ with
  | false =>
    rw [c1] at f1
    (simp (disch := first | decide | omega | (intros; exact Eq.trans rfl rfl) | (simp only [puri]; done)) only [a55, Rec.len, Rec.tk, Rec.fd0, Rec.fd1, Rec.fd2, Rec.at0, Rec.at1, Rec.at2, f1, f2, vis, visL, visB, fillR, rowsAt, toDs, toD, ↓ops_cons, ↓ops_consz, fzTs, fzLs, rg, rd, o, oz, kc, kb, ks, kx, on, og, od, ogd, A.run, evI, evOpt, evs, evP, argF, V.cs, binD, fzV, fzL, fzVs, dataVs, dataLs, V.data, L.data, unD, fillL, List.take_succ_cons, List.take_zero, List.drop_succ_cons, List.drop_zero, List.cons_append, ne_eq, Nat.reduceLT, Nat.reduceBEq, ↓reduceIte, Nat.reduceEqDiff, Nat.reduceAdd, Nat.reduceMul, Nat.reduceSub, Int.reduceToNat, Nat.reduceLeDiff, Int.reduceNeg, Int.reduceEq, Int.reduceLT, Int.reduceLE, Int.reduceBEq, Int.reduceBNe, Int.reduceToNat, dis])
    try simp
  | true =>
    cases c2 : offN r.ti with
    | false =>
      rw [c1] at f1; rw [c2] at f2
      (simp (disch := first | decide | omega | (intros; exact Eq.trans rfl rfl) | (simp only [puri]; done)) only [a55, Rec.len, Rec.tk, Rec.fd0, Rec.fd1, Rec.fd2, Rec.at0, Rec.at1, Rec.at2, f1, f2, vis, visL, visB, fillR, rowsAt, toDs, toD, ↓ops_cons, ↓ops_consz, fzTs, fzLs, rg, rd, o, oz, kc, kb, ks, kx, on, og, od, ogd, A.run, evI, evOpt, evs, evP, argF, V.cs, binD, fzV, fzL, fzVs, dataVs, dataLs, V.data, L.data, unD, fillL, List.take_succ_cons, List.take_zero, List.drop_succ_cons, List.drop_zero, List.cons_append, ne_eq, Nat.reduceLT, Nat.reduceBEq, ↓reduceIte, Nat.reduceEqDiff, Nat.reduceAdd, Nat.reduceMul, Nat.reduceSub, Int.reduceToNat, Nat.reduceLeDiff, Int.reduceNeg, Int.reduceEq, Int.reduceLT, Int.reduceLE, Int.reduceBEq, Int.reduceBNe, Int.reduceToNat, dis])
      try simp
    | true =>
      rw [c1] at f1; rw [c2] at f2
      by_cases c3 : r.da.length ≤ 64
      · (simp (disch := first | decide | omega | (intros; exact Eq.trans rfl rfl) | (simp only [puri]; done)) only [a55, Rec.len, Rec.tk, Rec.fd0, Rec.fd1, Rec.fd2, Rec.at0, Rec.at1, Rec.at2, f1, f2, vis, visL, visB, fillR, rowsAt, toDs, toD, ↓ops_cons, ↓ops_consz, fzTs, fzLs, rg, rd, o, oz, kc, kb, ks, kx, on, og, od, ogd, A.run, evI, evOpt, evs, evP, argF, V.cs, binD, fzV, fzL, fzVs, dataVs, dataLs, V.data, L.data, unD, fillL, List.take_succ_cons, List.take_zero, List.drop_succ_cons, List.drop_zero, List.cons_append, ne_eq, Nat.reduceLT, Nat.reduceBEq, ↓reduceIte, Nat.reduceEqDiff, Nat.reduceAdd, Nat.reduceMul, Nat.reduceSub, Int.reduceToNat, Nat.reduceLeDiff, Int.reduceNeg, Int.reduceEq, Int.reduceLT, Int.reduceLE, Int.reduceBEq, Int.reduceBNe, Int.reduceToNat, dis])
        try simp [c3]
      · (simp (disch := first | decide | omega | (intros; exact Eq.trans rfl rfl) | (simp only [puri]; done)) only [a55, Rec.len, Rec.tk, Rec.fd0, Rec.fd1, Rec.fd2, Rec.at0, Rec.at1, Rec.at2, f1, f2, vis, visL, visB, fillR, rowsAt, toDs, toD, ↓ops_cons, ↓ops_consz, fzTs, fzLs, rg, rd, o, oz, kc, kb, ks, kx, on, og, od, ogd, A.run, evI, evOpt, evs, evP, argF, V.cs, binD, fzV, fzL, fzVs, dataVs, dataLs, V.data, L.data, unD, fillL, List.take_succ_cons, List.take_zero, List.drop_succ_cons, List.drop_zero, List.cons_append, ne_eq, Nat.reduceLT, Nat.reduceBEq, ↓reduceIte, Nat.reduceEqDiff, Nat.reduceAdd, Nat.reduceMul, Nat.reduceSub, Int.reduceToNat, Nat.reduceLeDiff, Int.reduceNeg, Int.reduceEq, Int.reduceLT, Int.reduceLE, Int.reduceBEq, Int.reduceBNe, Int.reduceToNat, dis])
        try simp [c3]
end Go.Proofs.Ytogleebbifpijaa
