import Derived.Test.YthijgiinafanfaaB42
set_option linter.unusedSimpArgs false
set_option linter.unusedVariables false
namespace Go.Proofs.Ythijgiinafanfaa
open Go.Vi
set_option linter.unusedSimpArgs false
theorem get1_spec (s : List UInt8) (a : Nat) (g : Bool) (ha : a < 9223372036854775808) (hs : s.length ≤ 9223372036854775807) :
    call 38 [.one (.p 0 0), .one (.p 1 0), .one (.p 2 0)] [.cells [.d (.s s)], .cells [.d (.i .i64 a)], .cells [.d (.b g)]] =
      some (match rdF (s.drop a) 0 0 with | some (n, k) => (vi n, [.cells [.d (.s s)], .cells [.d (.i .i64 ((a + k : Nat) : Int))], .cells [.d (.b g)]]) | none => (vi 0, [.cells [.d (.s s)], .cells [.d (.i .i64 0)], .cells [.d (.b false)]])) := by
  apply enterS s38 rfl
  have hr := read_spec s a ha hs
  cases h : rdF (s.drop a) 0 0 with
  | none =>
    rw [h] at hr
    cases g
    · (simp (disch := first | decide | omega | (intros; exact Eq.trans rfl rfl) | (simp only [puri]; done)) only [a38, hr, rdV, vis, visL, visB, fillR, rowsAt, toDs, toD, ↓ops_cons, ↓ops_consz, fzTs, fzLs, rg, rd, o, oz, kc, kb, ks, kx, on, og, od, ogd, A.run, evI, evOpt, evs, evP, argF, V.cs, binD, fzV, fzL, fzVs, dataVs, dataLs, V.data, L.data, unD, fillL, List.take_succ_cons, List.take_zero, List.drop_succ_cons, List.drop_zero, List.cons_append, ne_eq, Nat.reduceLT, Nat.reduceBEq, ↓reduceIte, Nat.reduceEqDiff, Nat.reduceAdd, Nat.reduceMul, Nat.reduceSub, Int.reduceToNat, Nat.reduceLeDiff, Int.reduceNeg, Int.reduceEq, Int.reduceLT, Int.reduceLE, Int.reduceBEq, Int.reduceBNe, Int.reduceToNat, dis])
      rfl
    · (simp (disch := first | decide | omega | (intros; exact Eq.trans rfl rfl) | (simp only [puri]; done)) only [a38, hr, rdV, vis, visL, visB, fillR, rowsAt, toDs, toD, ↓ops_cons, ↓ops_consz, fzTs, fzLs, rg, rd, o, oz, kc, kb, ks, kx, on, og, od, ogd, A.run, evI, evOpt, evs, evP, argF, V.cs, binD, fzV, fzL, fzVs, dataVs, dataLs, V.data, L.data, unD, fillL, List.take_succ_cons, List.take_zero, List.drop_succ_cons, List.drop_zero, List.cons_append, ne_eq, Nat.reduceLT, Nat.reduceBEq, ↓reduceIte, Nat.reduceEqDiff, Nat.reduceAdd, Nat.reduceMul, Nat.reduceSub, Int.reduceToNat, Nat.reduceLeDiff, Int.reduceNeg, Int.reduceEq, Int.reduceLT, Int.reduceLE, Int.reduceBEq, Int.reduceBNe, Int.reduceToNat, dis])
      rfl
  | some q =>
    obtain ⟨n, k⟩ := q
    rw [h] at hr
    cases g
    · (simp (disch := first | decide | omega | (intros; exact Eq.trans rfl rfl) | (simp only [puri]; done)) only [a38, hr, rdV, vis, visL, visB, fillR, rowsAt, toDs, toD, ↓ops_cons, ↓ops_consz, fzTs, fzLs, rg, rd, o, oz, kc, kb, ks, kx, on, og, od, ogd, A.run, evI, evOpt, evs, evP, argF, V.cs, binD, fzV, fzL, fzVs, dataVs, dataLs, V.data, L.data, unD, fillL, List.take_succ_cons, List.take_zero, List.drop_succ_cons, List.drop_zero, List.cons_append, ne_eq, Nat.reduceLT, Nat.reduceBEq, ↓reduceIte, Nat.reduceEqDiff, Nat.reduceAdd, Nat.reduceMul, Nat.reduceSub, Int.reduceToNat, Nat.reduceLeDiff, Int.reduceNeg, Int.reduceEq, Int.reduceLT, Int.reduceLE, Int.reduceBEq, Int.reduceBNe, Int.reduceToNat, dis])
      rfl
    · (simp (disch := first | decide | omega | (intros; exact Eq.trans rfl rfl) | (simp only [puri]; done)) only [a38, hr, rdV, vis, visL, visB, fillR, rowsAt, toDs, toD, ↓ops_cons, ↓ops_consz, fzTs, fzLs, rg, rd, o, oz, kc, kb, ks, kx, on, og, od, ogd, A.run, evI, evOpt, evs, evP, argF, V.cs, binD, fzV, fzL, fzVs, dataVs, dataLs, V.data, L.data, unD, fillL, List.take_succ_cons, List.take_zero, List.drop_succ_cons, List.drop_zero, List.cons_append, ne_eq, Nat.reduceLT, Nat.reduceBEq, ↓reduceIte, Nat.reduceEqDiff, Nat.reduceAdd, Nat.reduceMul, Nat.reduceSub, Int.reduceToNat, Nat.reduceLeDiff, Int.reduceNeg, Int.reduceEq, Int.reduceLT, Int.reduceLE, Int.reduceBEq, Int.reduceBNe, Int.reduceToNat, dis])
      rfl

def getR (s : List UInt8) : Rec × Int := match rdF s 0 0 with
  | none => (⟨0, 0, []⟩, 3)
  | some (n, k) => match rdF (s.drop k) 0 0 with
    | none => (⟨0, 0, []⟩, 3)
    | some (m, j) => if whyF ⟨n, m, s.drop (k + j)⟩ = 0 then (⟨n, m, s.drop (k + j)⟩, 0) else (⟨0, 0, []⟩, whyF ⟨n, m, s.drop (k + j)⟩)
def recV (r : Rec × Int) : V := .tup [(true, r.1.enc.map .d), (false, [.d (.i .i64 r.2)])]
theorem callIso_at {φ : Phi} {f : FuncId} {args args' : List V} {H H' H1 H2 : Hp} {ids : List Nat} {r r' : V} (hi : idsOf H (args.flatMap V.refs) = ids) (ha : args.map (V.ren (place ids)) = args') (hH : canonH H ids = H')
    (hr : φ f args' H' = some (r, H1)) (he : (r.ren (fun j => if j < ids.length then ids[j]? else some (H.length + (j - ids.length))), setAll H ids ((H1.take ids.length).map (Box.ren (fun j => if j < ids.length then ids[j]? else some (H.length + (j - ids.length))))) ++ (H1.drop ids.length).map (Box.ren (fun j => if j < ids.length then ids[j]? else some (H.length + (j - ids.length))))) = (r', H2)) :
    callIso φ f args H = some (r', H2) := by
  subst hi; subst ha; subst hH
  simp only [callIso, hr]
  rw [he]
theorem rd_lt {l : List UInt8} {n k : Nat} (h : rdF l 0 0 = some (n, k)) : n < 9223372036854775808 := by
  obtain ⟨h1, h2, h3, h4⟩ := rdF_enc0 h
  have e : nd n = k := by unfold nd; rw [← h4, List.length_take]; omega
  obtain ⟨m, hm⟩ : ∃ m, nd n = m + 1 := ⟨nd n - 1, by have := nd_pos n; omega⟩
  have := ((nd_range m n).1 hm).1
  have h9 : (128 : Nat) ^ (m + 1) ≤ 128 ^ 9 := Nat.pow_le_pow_right (by decide) (by omega)
  have e9 : (128 : Nat) ^ 9 = 9223372036854775808 := by decide
  omega
set_option maxRecDepth 8000 in
theorem get_spec (s : List UInt8) (hs : s.length ≤ 1000000) : call 27 [vs s] [] = some (recV (getR s), []) := by
  apply enterS s27 rfl
  have g1 := get1_spec s 0 true (by decide) (by omega)
  unfold getR recV
  cases h : rdF s 0 0 with
  | none =>
    rw [List.drop_zero, h] at g1
    have c1 : callIso call 38 [.one (.p 0 0), .one (.p 2 0), .one (.p 3 0)] [.cells [.d (.s s)], .cells [.d (.i .i64 0), .d (.i .i64 0), .d (.s [])], .cells [.d (.i .i64 0)], .cells [.d (.b true)]] = some (vi 0, [.cells [.d (.s s)], .cells [.d (.i .i64 0), .d (.i .i64 0), .d (.s [])], .cells [.d (.i .i64 0)], .cells [.d (.b false)]]) :=
      callIso_at rfl rfl rfl g1 rfl
    (simp (disch := first | decide | omega | (intros; exact Eq.trans rfl rfl) | (simp only [puri]; done)) only [a27, c1, List.mapM_cons, List.mapM_nil, Option.pure_def, Option.bind_eq_bind, Option.bind_some, List.map_cons, List.map_nil, List.cons_append, List.nil_append, vis, visL, visB, fillR, rowsAt, toDs, toD, ↓ops_cons, ↓ops_consz, fzTs, fzLs, rg, rd, o, oz, kc, kb, ks, kx, on, og, od, ogd, A.run, evI, evOpt, evs, evP, argF, V.cs, binD, fzV, fzL, fzVs, dataVs, dataLs, V.data, L.data, unD, fillL, List.take_succ_cons, List.take_zero, List.drop_succ_cons, List.drop_zero, List.cons_append, ne_eq, Nat.reduceLT, Nat.reduceBEq, ↓reduceIte, Nat.reduceEqDiff, Nat.reduceAdd, Nat.reduceMul, Nat.reduceSub, Int.reduceToNat, Nat.reduceLeDiff, Int.reduceNeg, Int.reduceEq, Int.reduceLT, Int.reduceLE, Int.reduceBEq, Int.reduceBNe, Int.reduceToNat, dis])
    rfl
  | some q =>
    obtain ⟨n, k⟩ := q
    rw [List.drop_zero, h] at g1
    obtain ⟨b1, b2, b3, b4⟩ := rdF_enc0 h
    have hn := rd_lt h
    simp only [Nat.zero_add] at g1
    have c1 : callIso call 38 [.one (.p 0 0), .one (.p 2 0), .one (.p 3 0)] [.cells [.d (.s s)], .cells [.d (.i .i64 0), .d (.i .i64 0), .d (.s [])], .cells [.d (.i .i64 0)], .cells [.d (.b true)]] = some (vi n, [.cells [.d (.s s)], .cells [.d (.i .i64 0), .d (.i .i64 0), .d (.s [])], .cells [.d (.i .i64 k)], .cells [.d (.b true)]]) :=
      callIso_at rfl rfl rfl g1 rfl
    have g2 := get1_spec s k true (by omega) (by omega)
    dsimp only
    cases h2 : rdF (s.drop k) 0 0 with
    | none =>
      rw [h2] at g2
      have c2 : callIso call 38 [.one (.p 0 0), .one (.p 2 0), .one (.p 3 0)] [.cells [.d (.s s)], .cells [.d (.i .i64 0), .d (.i .i64 0), .d (.s [])], .cells [.d (.i .i64 k)], .cells [.d (.b true)], .cells [.d (.i .i64 n), .d (.i .i64 0), .d (.s [])]] = some (vi 0, [.cells [.d (.s s)], .cells [.d (.i .i64 0), .d (.i .i64 0), .d (.s [])], .cells [.d (.i .i64 0)], .cells [.d (.b false)], .cells [.d (.i .i64 n), .d (.i .i64 0), .d (.s [])]]) :=
        callIso_at rfl rfl rfl g2 rfl
      (simp (disch := first | decide | omega | (intros; exact Eq.trans rfl rfl) | (simp only [puri]; done)) only [a27, c1, c2, List.mapM_cons, List.mapM_nil, Option.pure_def, Option.bind_eq_bind, Option.bind_some, List.map_cons, List.map_nil, List.cons_append, List.nil_append, vis, visL, visB, fillR, rowsAt, toDs, toD, ↓ops_cons, ↓ops_consz, fzTs, fzLs, rg, rd, o, oz, kc, kb, ks, kx, on, og, od, ogd, A.run, evI, evOpt, evs, evP, argF, V.cs, binD, fzV, fzL, fzVs, dataVs, dataLs, V.data, L.data, unD, fillL, List.take_succ_cons, List.take_zero, List.drop_succ_cons, List.drop_zero, List.cons_append, ne_eq, Nat.reduceLT, Nat.reduceBEq, ↓reduceIte, Nat.reduceEqDiff, Nat.reduceAdd, Nat.reduceMul, Nat.reduceSub, Int.reduceToNat, Nat.reduceLeDiff, Int.reduceNeg, Int.reduceEq, Int.reduceLT, Int.reduceLE, Int.reduceBEq, Int.reduceBNe, Int.reduceToNat, dis])
      rfl
    | some q2 =>
      obtain ⟨m, j⟩ := q2
      rw [h2] at g2
      obtain ⟨d1, d2, d3, d4⟩ := rdF_enc0 h2
      have hm := rd_lt h2
      have d2' : k + j ≤ s.length := by rw [List.length_drop] at d2; omega
      have c2 : callIso call 38 [.one (.p 0 0), .one (.p 2 0), .one (.p 3 0)] [.cells [.d (.s s)], .cells [.d (.i .i64 0), .d (.i .i64 0), .d (.s [])], .cells [.d (.i .i64 k)], .cells [.d (.b true)], .cells [.d (.i .i64 n), .d (.i .i64 0), .d (.s [])]] = some (vi m, [.cells [.d (.s s)], .cells [.d (.i .i64 0), .d (.i .i64 0), .d (.s [])], .cells [.d (.i .i64 ((k + j : Nat) : Int))], .cells [.d (.b true)], .cells [.d (.i .i64 n), .d (.i .i64 0), .d (.s [])]]) :=
        callIso_at rfl rfl rfl g2 rfl
      have ck : call 39 [.agg [.d (.i .i64 n), .d (.i .i64 m), .d (.s (s.drop (k + j)))]] [] = some (vi (whyF ⟨n, m, s.drop (k + j)⟩), []) := check_spec ⟨n, m, s.drop (k + j)⟩ ⟨⟨by simp only []; omega, by simp only []; omega⟩, ⟨by simp only []; omega, by simp only []; omega⟩, by simp; omega⟩
      dsimp only
      by_cases c : whyF ⟨n, m, s.drop (k + j)⟩ = 0
      · rw [c] at ck
        rw [if_pos c]
        (simp (disch := first | decide | omega | (intros; exact Eq.trans rfl rfl) | (simp only [puri]; done)) only [a27, c1, c2, ck, List.mapM_cons, List.mapM_nil, Option.pure_def, Option.bind_eq_bind, Option.bind_some, List.map_cons, List.map_nil, List.cons_append, List.nil_append, vis, visL, visB, fillR, rowsAt, toDs, toD, ↓ops_cons, ↓ops_consz, fzTs, fzLs, rg, rd, o, oz, kc, kb, ks, kx, on, og, od, ogd, A.run, evI, evOpt, evs, evP, argF, V.cs, binD, fzV, fzL, fzVs, dataVs, dataLs, V.data, L.data, unD, fillL, List.take_succ_cons, List.take_zero, List.drop_succ_cons, List.drop_zero, List.cons_append, ne_eq, Nat.reduceLT, Nat.reduceBEq, ↓reduceIte, Nat.reduceEqDiff, Nat.reduceAdd, Nat.reduceMul, Nat.reduceSub, Int.reduceToNat, Nat.reduceLeDiff, Int.reduceNeg, Int.reduceEq, Int.reduceLT, Int.reduceLE, Int.reduceBEq, Int.reduceBNe, Int.reduceToNat, dis])
        rfl
      · rw [if_neg c]
        (simp (disch := first | decide | omega | (intros; exact Eq.trans rfl rfl) | (simp only [puri]; done)) only [a27, c1, c2, ck, c, List.mapM_cons, List.mapM_nil, Option.pure_def, Option.bind_eq_bind, Option.bind_some, List.map_cons, List.map_nil, List.cons_append, List.nil_append, vis, visL, visB, fillR, rowsAt, toDs, toD, ↓ops_cons, ↓ops_consz, fzTs, fzLs, rg, rd, o, oz, kc, kb, ks, kx, on, og, od, ogd, A.run, evI, evOpt, evs, evP, argF, V.cs, binD, fzV, fzL, fzVs, dataVs, dataLs, V.data, L.data, unD, fillL, List.take_succ_cons, List.take_zero, List.drop_succ_cons, List.drop_zero, List.cons_append, ne_eq, Nat.reduceLT, Nat.reduceBEq, ↓reduceIte, Nat.reduceEqDiff, Nat.reduceAdd, Nat.reduceMul, Nat.reduceSub, Int.reduceToNat, Nat.reduceLeDiff, Int.reduceNeg, Int.reduceEq, Int.reduceLT, Int.reduceLE, Int.reduceBEq, Int.reduceBNe, Int.reduceToNat, dis])
        rfl
end Go.Proofs.Ythijgiinafanfaa
