import Derived.Test.YtgcamaneelgejaaF10
import Derived.Test.YtgcamaneelgejaaVib
set_option linter.unusedSimpArgs false
set_option linter.unusedVariables false
namespace Go.Proofs.Ytgcamaneelgejaa
open Go.Vi
set_option linter.unusedSimpArgs false

def goodB (b : List UInt8) : Bool := decide (1 ≤ b.length) && decide (b.length ≤ 300)
def encN (n : Nat) : List D := [.i .i64 ((n : Nat) : Int)]
theorem encN_len (n : Nat) : (encN n).length = 1 := Eq.trans rfl rfl
theorem encN_at (n : Nat) : (encN n)[0]? = some (.i .i64 ((n : Nat) : Int)) := Eq.trans rfl rfl
def endN (l : List (List UInt8)) (k : Nat) : Nat := (rowF (l.take k)).length
def endsF (l : List (List UInt8)) (m : Nat) : List Nat := (List.range (m + 1)).map (endN l)
theorem endsF_succ (l : List (List UInt8)) (m : Nat) : endsF l (m + 1) = endsF l m ++ [endN l (m + 1)] := by
  unfold endsF; rw [List.range_succ, List.map_append]; rfl
theorem endsF_len (l : List (List UInt8)) (m : Nat) : (endsF l m).length = m + 1 := by simp [endsF]
theorem endsF_get (l : List (List UInt8)) (m k : Nat) (h : k < m + 1) : (endsF l m)[k]? = some (endN l k) := by
  simp only [endsF, List.getElem?_map, List.getElem?_range h, Option.map_some]
theorem rowF_snoc (l : List (List UInt8)) (k : Nat) (h : k < l.length) : rowF (l.take (k + 1)) = rowF (l.take k) ++ frameF l[k] := by
  unfold rowF; rw [take_succ_get l k h, List.flatMap_append]; simp
theorem endN_succ (l : List (List UInt8)) (k : Nat) (h : k < l.length) : endN l (k + 1) = endN l k + (frameF l[k]).length := by
  unfold endN; rw [rowF_snoc l k h, List.length_append]
theorem endN_le (l : List (List UInt8)) (hg : l.all goodB = true) : ∀ k, k ≤ l.length → endN l k ≤ 309 * k
  | 0, _ => by simp [endN, rowF]
  | k + 1, h => by
    have ih := endN_le l hg k (by omega)
    rw [endN_succ l k (by omega), frameF_len]
    have := (List.all_eq_true.1 hg) l[k] (List.getElem_mem _)
    simp only [goodB, Bool.and_eq_true, decide_eq_true_eq] at this
    have h9 : nd l[k].length ≤ 2 := by
      have hp := nd_pos l[k].length
      rcases Nat.lt_or_ge l[k].length 128 with h1 | h1
      · rw [nd_small h1]; omega
      · rw [nd_big (by omega), nd_small (by omega)]; omega
    omega
def rowV (l : List (List UInt8)) : V := if l.length ≤ 20 ∧ l.all goodB = true then .tup [(false, [.d (.s (rowF l))]), (false, [.d (.l ((endsF l l.length).map encN))]), (false, [.d (.b true)])]
  else .tup [(false, [.d (.s [])]), (false, [.d (.l [])]), (false, [.d (.b false)])]

set_option maxRecDepth 8000 in
theorem row_spec (l : List (List UInt8)) (hl : l.length ≤ 9223372036854775807) (hs : ∀ b ∈ l, b.length ≤ 9223372036854775807) : call 18 [vl (l.map encS)] [] = some (rowV l, []) := by
  apply enterS s18 rfl
  obtain ⟨W, hW⟩ : ∃ W, W = rowV l := ⟨_, rfl⟩
  rw [← hW]
  unfold rowV at hW
  by_cases c0 : l.length ≤ 20
  · (simp (disch := first | decide | omega | (intros; exact Eq.trans rfl rfl) | (simp only [puri]; done)) only [a18, vis, visL, visB, fillR, rowsAt, toDs, toD, ↓ops_cons, ↓ops_consz, fzTs, fzLs, rg, rd, o, oz, kc, kb, ks, kx, on, og, od, ogd, A.run, evI, evOpt, evs, evP, argF, V.cs, binD, fzV, fzL, fzVs, dataVs, dataLs, V.data, L.data, unD, fillL, List.take_succ_cons, List.take_zero, List.drop_succ_cons, List.drop_zero, List.cons_append, ne_eq, Nat.reduceLT, Nat.reduceBEq, ↓reduceIte, Nat.reduceEqDiff, Nat.reduceAdd, Nat.reduceMul, Nat.reduceSub, Int.reduceToNat, Nat.reduceLeDiff, Int.reduceNeg, Int.reduceEq, Int.reduceLT, Int.reduceLE, Int.reduceBEq, Int.reduceBNe, Int.reduceToNat, dis])
    refine loop_box (σ := Nat) (fun i => l.length - i) (fun i => i ≤ l.length ∧ (l.take i).all goodB = true ∧ endN l i ≤ 309 * i) (fun i => [vl (l.map encS), vs (rowF (l.take i)), .one (.sl 0 1 0 (i + 1)), vi i]) (fun i => [.arr 1 ((endsF l i).map encN) 0])
      (fun _ => (W, ([] : Hp))) ?_ 0 ⟨Nat.zero_le _, rfl, by simp [endN, rowF]⟩ _ _ (at_head2 (by decide) (by simp only [List.map_cons, List.map_nil, vis, visL, visB, fillR, rowsAt, toDs, toD, ↓ops_cons, ↓ops_consz, fzTs, fzLs, rg, rd, o, oz, kc, kb, ks, kx, on, og, od, ogd, A.run, evI, evOpt, evs, evP, argF, V.cs, binD, fzV, fzL, fzVs, dataVs, dataLs, V.data, L.data, unD, fillL, List.take_succ_cons, List.take_zero, List.drop_succ_cons, List.drop_zero, List.cons_append, ne_eq, Nat.reduceLT, Nat.reduceBEq, ↓reduceIte, Nat.reduceEqDiff, Nat.reduceAdd, Nat.reduceMul, Nat.reduceSub, Int.reduceToNat, Nat.reduceLeDiff, Int.reduceNeg, Int.reduceEq, Int.reduceLT, Int.reduceLE, Int.reduceBEq, Int.reduceBNe, Int.reduceToNat]; exact rfl) (by simp [idsOf, reach, place_cons, place_nil, canonH, V.ren, L.ren, Box.ren, V.refs, L.refs, Box.refs, endsF, encN, endN, rowF]) (by simp [idsOf, reach, place_cons, place_nil, canonH, V.ren, L.ren, Box.ren, V.refs, L.refs, Box.refs, endsF, encN, endN, rowF]))
    rintro i ⟨hi, hg, he⟩ R hR
    have hel : (rowF (l.take i)).length ≤ 309 * i := he
    rcases Nat.lt_or_ge i l.length with h | h
    · have hp := putFrame_spec l[i] (hs _ (List.getElem_mem h))
      unfold putV at hp
      have hlen := endsF_len l i
      cases hgb : goodB l[i] with
      | true =>
        have hgb' := hgb
        simp only [goodB, Bool.and_eq_true, decide_eq_true_eq] at hgb'
        rw [if_pos (by omega)] at hp
        have hfl := frameF_len l[i]
        have h9 := nd_le9 (n := l[i].length) (by omega)
        have hsn := rowF_snoc l i h
        have hes := endN_succ l i h
        have hnd2 : nd l[i].length ≤ 2 := by
          rcases Nat.lt_or_ge l[i].length 128 with h1 | h1
          · rw [nd_small h1]; omega
          · rw [nd_big (by omega), nd_small (by omega)]; omega
        have hall : (l.take (i + 1)).all goodB = true := by rw [take_succ_get l i h, List.all_append, hg]; simp [hgb]
        have hen : endN l i + (frameF l[i]).length = endN l (i + 1) := hes.symm
        have hrl : (rowF (l.take i)).length = endN l i := rfl
        (simp (disch := first | decide | omega | (intros; exact Eq.trans rfl rfl) | (simp only [puri]; done)) only [a18_0, encS_len, encS_at, hp, hlen, hrl, vis, visL, visB, fillR, rowsAt, toDs, toD, ↓ops_cons, ↓ops_consz, fzTs, fzLs, rg, rd, o, oz, kc, kb, ks, kx, on, og, od, ogd, A.run, evI, evOpt, evs, evP, argF, V.cs, binD, fzV, fzL, fzVs, dataVs, dataLs, V.data, L.data, unD, fillL, List.take_succ_cons, List.take_zero, List.drop_succ_cons, List.drop_zero, List.cons_append, ne_eq, Nat.reduceLT, Nat.reduceBEq, ↓reduceIte, Nat.reduceEqDiff, Nat.reduceAdd, Nat.reduceMul, Nat.reduceSub, Int.reduceToNat, Nat.reduceLeDiff, Int.reduceNeg, Int.reduceEq, Int.reduceLT, Int.reduceLE, Int.reduceBEq, Int.reduceBNe, Int.reduceToNat, dis])
        exact hR (i + 1) (by omega) ⟨by omega, hall, by omega⟩ _ _ (at_head2 (by decide) (by simp only [List.map_cons, List.map_nil, vis, visL, visB, fillR, rowsAt, toDs, toD, ↓ops_cons, ↓ops_consz, fzTs, fzLs, rg, rd, o, oz, kc, kb, ks, kx, on, og, od, ogd, A.run, evI, evOpt, evs, evP, argF, V.cs, binD, fzV, fzL, fzVs, dataVs, dataLs, V.data, L.data, unD, fillL, List.take_succ_cons, List.take_zero, List.drop_succ_cons, List.drop_zero, List.cons_append, ne_eq, Nat.reduceLT, Nat.reduceBEq, ↓reduceIte, Nat.reduceEqDiff, Nat.reduceAdd, Nat.reduceMul, Nat.reduceSub, Int.reduceToNat, Nat.reduceLeDiff, Int.reduceNeg, Int.reduceEq, Int.reduceLT, Int.reduceLE, Int.reduceBEq, Int.reduceBNe, Int.reduceToNat]; exact rfl) (by simp [idsOf, reach, place_cons, place_nil, canonH, V.ren, L.ren, Box.ren, V.refs, L.refs, Box.refs, hsn, endsF_succ, encN, hes]) (by simp [idsOf, reach, place_cons, place_nil, canonH, V.ren, L.ren, Box.ren, V.refs, L.refs, Box.refs, hsn, endsF_succ, encN, hes]))
      | false =>
        have hna : ¬ (l.length ≤ 20 ∧ l.all goodB = true) := by
          rintro ⟨_, h2⟩
          have := (List.all_eq_true.1 h2) l[i] (List.getElem_mem h)
          rw [hgb] at this; cases this
        rw [if_neg hna] at hW
        simp only [goodB, Bool.and_eq_false_iff, decide_eq_false_iff_not] at hgb
        by_cases h3 : l[i].length ≤ 300
        · rw [if_neg (by omega)] at hp
          (simp (disch := first | decide | omega | (intros; exact Eq.trans rfl rfl) | (simp only [puri]; done)) only [a18_0, encS_len, encS_at, hp, hW, vis, visL, visB, fillR, rowsAt, toDs, toD, ↓ops_cons, ↓ops_consz, fzTs, fzLs, rg, rd, o, oz, kc, kb, ks, kx, on, og, od, ogd, A.run, evI, evOpt, evs, evP, argF, V.cs, binD, fzV, fzL, fzVs, dataVs, dataLs, V.data, L.data, unD, fillL, List.take_succ_cons, List.take_zero, List.drop_succ_cons, List.drop_zero, List.cons_append, ne_eq, Nat.reduceLT, Nat.reduceBEq, ↓reduceIte, Nat.reduceEqDiff, Nat.reduceAdd, Nat.reduceMul, Nat.reduceSub, Int.reduceToNat, Nat.reduceLeDiff, Int.reduceNeg, Int.reduceEq, Int.reduceLT, Int.reduceLE, Int.reduceBEq, Int.reduceBNe, Int.reduceToNat, dis])
          try simp [trim, V.refs, L.refs]
        · by_cases h4 : 1 ≤ l[i].length ∧ l[i].length ≤ 65536
          · rw [if_pos h4] at hp
            (simp (disch := first | decide | omega | (intros; exact Eq.trans rfl rfl) | (simp only [puri]; done)) only [a18_0, encS_len, encS_at, hp, hW, vis, visL, visB, fillR, rowsAt, toDs, toD, ↓ops_cons, ↓ops_consz, fzTs, fzLs, rg, rd, o, oz, kc, kb, ks, kx, on, og, od, ogd, A.run, evI, evOpt, evs, evP, argF, V.cs, binD, fzV, fzL, fzVs, dataVs, dataLs, V.data, L.data, unD, fillL, List.take_succ_cons, List.take_zero, List.drop_succ_cons, List.drop_zero, List.cons_append, ne_eq, Nat.reduceLT, Nat.reduceBEq, ↓reduceIte, Nat.reduceEqDiff, Nat.reduceAdd, Nat.reduceMul, Nat.reduceSub, Int.reduceToNat, Nat.reduceLeDiff, Int.reduceNeg, Int.reduceEq, Int.reduceLT, Int.reduceLE, Int.reduceBEq, Int.reduceBNe, Int.reduceToNat, dis])
            try simp [trim, V.refs, L.refs]
          · rw [if_neg h4] at hp
            (simp (disch := first | decide | omega | (intros; exact Eq.trans rfl rfl) | (simp only [puri]; done)) only [a18_0, encS_len, encS_at, hp, hW, vis, visL, visB, fillR, rowsAt, toDs, toD, ↓ops_cons, ↓ops_consz, fzTs, fzLs, rg, rd, o, oz, kc, kb, ks, kx, on, og, od, ogd, A.run, evI, evOpt, evs, evP, argF, V.cs, binD, fzV, fzL, fzVs, dataVs, dataLs, V.data, L.data, unD, fillL, List.take_succ_cons, List.take_zero, List.drop_succ_cons, List.drop_zero, List.cons_append, ne_eq, Nat.reduceLT, Nat.reduceBEq, ↓reduceIte, Nat.reduceEqDiff, Nat.reduceAdd, Nat.reduceMul, Nat.reduceSub, Int.reduceToNat, Nat.reduceLeDiff, Int.reduceNeg, Int.reduceEq, Int.reduceLT, Int.reduceLE, Int.reduceBEq, Int.reduceBNe, Int.reduceToNat, dis])
            try simp [trim, V.refs, L.refs]
    · have hil : i = l.length := by omega
      subst hil
      rw [List.take_of_length_le (Nat.le_refl _)] at hg
      rw [if_pos ⟨c0, hg⟩] at hW
      have hlen := endsF_len l l.length
      (simp (disch := first | decide | omega | (intros; exact Eq.trans rfl rfl) | (simp only [puri]; done)) only [a18_0, hlen, hW, vis, visL, visB, fillR, rowsAt, toDs, toD, ↓ops_cons, ↓ops_consz, fzTs, fzLs, rg, rd, o, oz, kc, kb, ks, kx, on, og, od, ogd, A.run, evI, evOpt, evs, evP, argF, V.cs, binD, fzV, fzL, fzVs, dataVs, dataLs, V.data, L.data, unD, fillL, List.take_succ_cons, List.take_zero, List.drop_succ_cons, List.drop_zero, List.cons_append, ne_eq, Nat.reduceLT, Nat.reduceBEq, ↓reduceIte, Nat.reduceEqDiff, Nat.reduceAdd, Nat.reduceMul, Nat.reduceSub, Int.reduceToNat, Nat.reduceLeDiff, Int.reduceNeg, Int.reduceEq, Int.reduceLT, Int.reduceLE, Int.reduceBEq, Int.reduceBNe, Int.reduceToNat, dis])
      try simp [trim, V.refs, L.refs, List.take_of_length_le, hlen]
  · rw [if_neg (by omega)] at hW
    (simp (disch := first | decide | omega | (intros; exact Eq.trans rfl rfl) | (simp only [puri]; done)) only [a18, hW, vis, visL, visB, fillR, rowsAt, toDs, toD, ↓ops_cons, ↓ops_consz, fzTs, fzLs, rg, rd, o, oz, kc, kb, ks, kx, on, og, od, ogd, A.run, evI, evOpt, evs, evP, argF, V.cs, binD, fzV, fzL, fzVs, dataVs, dataLs, V.data, L.data, unD, fillL, List.take_succ_cons, List.take_zero, List.drop_succ_cons, List.drop_zero, List.cons_append, ne_eq, Nat.reduceLT, Nat.reduceBEq, ↓reduceIte, Nat.reduceEqDiff, Nat.reduceAdd, Nat.reduceMul, Nat.reduceSub, Int.reduceToNat, Nat.reduceLeDiff, Int.reduceNeg, Int.reduceEq, Int.reduceLT, Int.reduceLE, Int.reduceBEq, Int.reduceBNe, Int.reduceToNat, dis])
    try simp [trim, V.refs, L.refs]
end Go.Proofs.Ytgcamaneelgejaa
