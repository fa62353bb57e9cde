import Derived.Test.YtoehimghaanjfaaX18Tab
import Derived.Test.YtoehimghaanjfaaVic
set_option linter.unusedSimpArgs false
set_option linter.unusedVariables false
namespace Go.Proofs.Ytoehimghaanjfaa
open Go.Vi
set_option linter.unusedSimpArgs false

structure Alarm where
  id : Int
  at_ : Int
  deriving DecidableEq
def Alarm.enc (e : Alarm) : List D := [.i .i64 e.id, .i .i64 e.at_]
theorem Alarm.len (e : Alarm) : e.enc.length = 2 := Eq.trans rfl rfl
theorem Alarm.tk (e : Alarm) : e.enc.take 2 = e.enc := Eq.trans rfl rfl
theorem Alarm.tkL (e : Alarm) : (e.enc.map L.d).take 2 = e.enc.map L.d := Eq.trans rfl rfl
theorem Alarm.dat (e : Alarm) : dataLs (e.enc.map L.d) = some (e.enc.map L.d) := Eq.trans rfl rfl
theorem Alarm.rfs (e : Alarm) : (e.enc.map L.d).flatMap L.refs = [] := Eq.trans rfl rfl
theorem Alarm.rn (e : Alarm) (g : Nat → Option Nat) : (e.enc.map L.d).map (L.ren g) = e.enc.map L.d := Eq.trans rfl rfl
theorem Alarm.lenL (e : Alarm) : (e.enc.map L.d).length = 2 := Eq.trans rfl rfl
theorem Alarm.at0 (e : Alarm) : e.enc[0]? = some (.i .i64 e.id) := Eq.trans rfl rfl
theorem Alarm.fd0 (e : Alarm) : (e.enc.map L.d)[0]? = some (.d (.i .i64 e.id)) := Eq.trans rfl rfl
theorem Alarm.at1 (e : Alarm) : (e.enc.drop 1)[0]? = some (.i .i64 e.at_) := Eq.trans rfl rfl
theorem Alarm.fd1 (e : Alarm) : (e.enc.map L.d)[1]? = some (.d (.i .i64 e.at_)) := Eq.trans rfl rfl
theorem Alarm.up0 (e : Alarm) (x : Int) : .i .i64 x :: e.enc.drop 1 = ({ e with id := x } : Alarm).enc := Eq.trans rfl rfl
theorem Alarm.up1 (e : Alarm) (x : Int) : e.enc.take 1 ++ [.i .i64 x] ++ e.enc.drop 2 = ({ e with at_ := x } : Alarm).enc := Eq.trans rfl rfl
def Alarm.ok (e : Alarm) : Prop := (-9223372036854775808 ≤ e.id ∧ e.id < 9223372036854775808) ∧ (-9223372036854775808 ≤ e.at_ ∧ e.at_ < 9223372036854775808)
def Alarm.ty : List Ty := [.i .i64, .i .i64]
theorem Alarm.eqs (a b : Alarm) : scEqs [0, 0] (a.enc.map L.d) (b.enc.map L.d) = some (decide (a = b)) := by
  cases a; cases b
  simp only [Alarm.enc, List.map_cons, List.map_nil, scEqs, scEq, if_true, Alarm.mk.injEq]
  congr 1
  rw [Bool.eq_iff_iff]
  simp only [Bool.and_eq_true, beq_iff_eq, decide_eq_true_eq, and_true]
theorem Alarm.of (r : List D) (h : wfRow Alarm.ty r) : ∃ e : Alarm, r = e.enc ∧ e.ok := by
  simp only [Alarm.ty, wfRow, wfT] at h
  obtain ⟨_, _, rfl, ⟨x0, rfl, h0, g0⟩, ⟨_, _, rfl, ⟨x1, rfl, h1, g1⟩, rfl⟩⟩ := h
  refine ⟨⟨x0, x1⟩, rfl, ?_⟩
  exact ⟨⟨Int.le_trans (by decide) h0, Int.lt_of_le_of_lt g0 (by decide)⟩, ⟨Int.le_trans (by decide) h1, Int.lt_of_le_of_lt g1 (by decide)⟩⟩


theorem find1_spec (e : Alarm) (id : Int) : call 21 [.agg (e.enc.map .d), .one (.p 0 0)] [.cells [.d (.i .i64 id)]] = some (vb (e.id == id), [.cells [.d (.i .i64 id)]]) := by
  apply enterS s21 rfl
  (simp (disch := first | decide | omega | (intros; exact Eq.trans rfl rfl) | (simp only [puri]; done)) only [a21, Alarm.fd0, vis, visL, visB, fillR, rowsAt, toDs, toD, ↓ops_cons, ↓ops_consz, fzTs, fzLs, rg, rd, o, oz, kc, kb, ks, kx, on, og, od, ogd, A.run, evI, evOpt, evs, evP, argF, V.cs, binD, fzV, fzL, fzVs, dataVs, dataLs, V.data, L.data, unD, fillL, List.take_succ_cons, List.take_zero, List.drop_succ_cons, List.drop_zero, List.cons_append, ne_eq, Nat.reduceLT, Nat.reduceBEq, ↓reduceIte, Nat.reduceEqDiff, Nat.reduceAdd, Nat.reduceMul, Nat.reduceSub, Int.reduceToNat, Nat.reduceLeDiff, Int.reduceNeg, Int.reduceEq, Int.reduceLT, Int.reduceLE, Int.reduceBEq, Int.reduceBNe, Int.reduceToNat, dis])
  rfl

def isId (id : Int) (e : Alarm) : Bool := e.id == id
theorem index18_spec (id : Int) (q : List Alarm) (hq : q.length ≤ 9223372036854775807) :
    call 20 [vl (q.map Alarm.enc), .one (.f 21 [0])] [.cells [.d (.i .i64 id)]] = some (vi (idxF (isId id) q 0), [.cells [.d (.i .i64 id)]]) := by
  apply enterS s20 rfl
  (simp (disch := first | decide | omega | (intros; exact Eq.trans rfl rfl) | (simp only [puri]; done)) only [a20, vis, visL, visB, fillR, rowsAt, toDs, toD, ↓ops_cons, ↓ops_consz, fzTs, fzLs, rg, rd, o, oz, kc, kb, ks, kx, on, og, od, ogd, A.run, evI, evOpt, evs, evP, argF, V.cs, binD, fzV, fzL, fzVs, dataVs, dataLs, V.data, L.data, unD, fillL, List.take_succ_cons, List.take_zero, List.drop_succ_cons, List.drop_zero, List.cons_append, ne_eq, Nat.reduceLT, Nat.reduceBEq, ↓reduceIte, Nat.reduceEqDiff, Nat.reduceAdd, Nat.reduceMul, Nat.reduceSub, Int.reduceToNat, Nat.reduceLeDiff, Int.reduceNeg, Int.reduceEq, Int.reduceLT, Int.reduceLE, Int.reduceBEq, Int.reduceBNe, Int.reduceToNat, dis])
  refine loop_boxM (σ := Nat) (fun k => q.length - k) (fun k => k ≤ q.length) (fun k => [vl (q.map Alarm.enc), .one (.f 21 [0]), vi q.length, vi k]) (fun _ => ([.cells [.d (.i .i64 id)]] : Hp)) (fun k => (vi (idxF (isId id) q k), ([.cells [.d (.i .i64 id)]] : Hp))) ?_ 0 (Nat.zero_le _) _ _ (at_headM (by decide) (by simp only [List.map_cons, List.map_nil, vis, visL, visB, fillR, rowsAt, toDs, toD, ↓ops_cons, ↓ops_consz, fzTs, fzLs, rg, rd, o, oz, kc, kb, ks, kx, on, og, od, ogd, A.run, evI, evOpt, evs, evP, argF, V.cs, binD, fzV, fzL, fzVs, dataVs, dataLs, V.data, L.data, unD, fillL, List.take_succ_cons, List.take_zero, List.drop_succ_cons, List.drop_zero, List.cons_append, ne_eq, Nat.reduceLT, Nat.reduceBEq, ↓reduceIte, Nat.reduceEqDiff, Nat.reduceAdd, Nat.reduceMul, Nat.reduceSub, Int.reduceToNat, Nat.reduceLeDiff, Int.reduceNeg, Int.reduceEq, Int.reduceLT, Int.reduceLE, Int.reduceBEq, Int.reduceBNe, Int.reduceToNat]; exact rfl) (by rfl) (by rfl) (by rfl))
  intro k hk R hR
  have hc : ∀ e : Alarm, callIso call 21 [.agg (e.enc.map .d), .one (.p 0 0)] [.cells [.d (.i .i64 id)]] = some (vb (isId id e), [.cells [.d (.i .i64 id)]]) := fun e => iso_at rfl rfl rfl (find1_spec e id) rfl
  rcases Nat.lt_or_ge k q.length with h | h
  · cases hpk : isId id q[k] with
    | true =>
      (simp (disch := first | decide | omega | (intros; exact Eq.trans rfl rfl) | (simp only [puri]; done)) only [a20_0, Alarm.len, Alarm.tk, hc, hpk, Nat.le_refl, idxF_hit _ q k h hpk, vis, visL, visB, fillR, rowsAt, toDs, toD, ↓ops_cons, ↓ops_consz, fzTs, fzLs, rg, rd, o, oz, kc, kb, ks, kx, on, og, od, ogd, A.run, evI, evOpt, evs, evP, argF, V.cs, binD, fzV, fzL, fzVs, dataVs, dataLs, V.data, L.data, unD, fillL, List.take_succ_cons, List.take_zero, List.drop_succ_cons, List.drop_zero, List.cons_append, ne_eq, Nat.reduceLT, Nat.reduceBEq, ↓reduceIte, Nat.reduceEqDiff, Nat.reduceAdd, Nat.reduceMul, Nat.reduceSub, Int.reduceToNat, Nat.reduceLeDiff, Int.reduceNeg, Int.reduceEq, Int.reduceLT, Int.reduceLE, Int.reduceBEq, Int.reduceBNe, Int.reduceToNat, dis])
      rfl
    | false =>
      (simp (disch := first | decide | omega | (intros; exact Eq.trans rfl rfl) | (simp only [puri]; done)) only [a20_0, Alarm.len, Alarm.tk, hc, hpk, Nat.le_refl, idxF_miss _ q k h hpk, vis, visL, visB, fillR, rowsAt, toDs, toD, ↓ops_cons, ↓ops_consz, fzTs, fzLs, rg, rd, o, oz, kc, kb, ks, kx, on, og, od, ogd, A.run, evI, evOpt, evs, evP, argF, V.cs, binD, fzV, fzL, fzVs, dataVs, dataLs, V.data, L.data, unD, fillL, List.take_succ_cons, List.take_zero, List.drop_succ_cons, List.drop_zero, List.cons_append, ne_eq, Nat.reduceLT, Nat.reduceBEq, ↓reduceIte, Nat.reduceEqDiff, Nat.reduceAdd, Nat.reduceMul, Nat.reduceSub, Int.reduceToNat, Nat.reduceLeDiff, Int.reduceNeg, Int.reduceEq, Int.reduceLT, Int.reduceLE, Int.reduceBEq, Int.reduceBNe, Int.reduceToNat, dis])
      exact hR (k + 1) (by first | omega | (simp only []; omega)) (by first | omega | (simp only []; omega)) _ _ (at_headM (by decide) (by simp only [List.map_cons, List.map_nil, vis, visL, visB, fillR, rowsAt, toDs, toD, ↓ops_cons, ↓ops_consz, fzTs, fzLs, rg, rd, o, oz, kc, kb, ks, kx, on, og, od, ogd, A.run, evI, evOpt, evs, evP, argF, V.cs, binD, fzV, fzL, fzVs, dataVs, dataLs, V.data, L.data, unD, fillL, List.take_succ_cons, List.take_zero, List.drop_succ_cons, List.drop_zero, List.cons_append, ne_eq, Nat.reduceLT, Nat.reduceBEq, ↓reduceIte, Nat.reduceEqDiff, Nat.reduceAdd, Nat.reduceMul, Nat.reduceSub, Int.reduceToNat, Nat.reduceLeDiff, Int.reduceNeg, Int.reduceEq, Int.reduceLT, Int.reduceLE, Int.reduceBEq, Int.reduceBNe, Int.reduceToNat]; exact rfl) (by rfl) (by rfl) (by rfl))
  · (simp (disch := first | decide | omega | (intros; exact Eq.trans rfl rfl) | (simp only [puri]; done)) only [a20_0, idxF_end _ q k h, vis, visL, visB, fillR, rowsAt, toDs, toD, ↓ops_cons, ↓ops_consz, fzTs, fzLs, rg, rd, o, oz, kc, kb, ks, kx, on, og, od, ogd, A.run, evI, evOpt, evs, evP, argF, V.cs, binD, fzV, fzL, fzVs, dataVs, dataLs, V.data, L.data, unD, fillL, List.take_succ_cons, List.take_zero, List.drop_succ_cons, List.drop_zero, List.cons_append, ne_eq, Nat.reduceLT, Nat.reduceBEq, ↓reduceIte, Nat.reduceEqDiff, Nat.reduceAdd, Nat.reduceMul, Nat.reduceSub, Int.reduceToNat, Nat.reduceLeDiff, Int.reduceNeg, Int.reduceEq, Int.reduceLT, Int.reduceLE, Int.reduceBEq, Int.reduceBNe, Int.reduceToNat, dis])
    rfl
end Go.Proofs.Ytoehimghaanjfaa
