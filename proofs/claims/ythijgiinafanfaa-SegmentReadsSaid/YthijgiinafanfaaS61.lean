import Derived.Test.YthijgiinafanfaaS60
set_option linter.unusedSimpArgs false
set_option linter.unusedVariables false
namespace Go.Proofs.Ythijgiinafanfaa
open Go.Vi
set_option linter.unusedSimpArgs false

def encN (n : Nat) : List D := [.i .i64 ((n : Nat) : Int)]
theorem encN_len (n : Nat) : (encN n).length = 1 := Eq.trans rfl rfl
theorem encN_at (n : Nat) : (encN n)[0]? = some (.i .i64 ((n : Nat) : Int)) := Eq.trans rfl rfl
def endsR (l : List Rec) (m : Nat) : List Nat := (List.range (m + 1)).map (endR l)
theorem endsR_succ (l : List Rec) (m : Nat) : endsR l (m + 1) = endsR l m ++ [endR l (m + 1)] := by
  unfold endsR; rw [List.range_succ, List.map_append]; rfl
theorem endsR_len (l : List Rec) (m : Nat) : (endsR l m).length = m + 1 := by simp [endsR]
theorem endsR_get (l : List Rec) (m k : Nat) (h : k < m + 1) : (endsR l m)[k]? = some (endR l k) := by
  simp only [endsR, List.getElem?_map, List.getElem?_range h, Option.map_some]
theorem endR_succ (l : List Rec) (k : Nat) (h : k < l.length) : endR l (k + 1) = endR l k + (frameR l[k]).length := by
  unfold endR; rw [rowS_succ l k h, List.length_append]
def okS (ds : List (List UInt8)) : Bool := ds.all fun d => decide (d.length ≤ 64)
def segRowV (b : Int) (ds : List (List UInt8)) : V := if ds.length ≤ 20 ∧ okS ds = true then .tup [(false, [.d (.s (rowS (recsF b ds)))]), (false, [.d (.l ((endsR (recsF b ds) ds.length).map encN))]), (false, [.d (.b true)])]
  else .tup [(false, [.d (.s [])]), (false, [.d (.l [])]), (false, [.d (.b false)])]
theorem why_rec {b : Int} (hb : 0 ≤ b ∧ b ≤ 65535) {i : Nat} (hi : i < 20) (d : List UInt8) : whyF ⟨b + i, i, d⟩ = if d.length ≤ 64 then 0 else 5 := by
  unfold whyF
  rw [if_pos]
  simp only [offN, Bool.and_eq_true, decide_eq_true_eq]
  omega
theorem recs_ok {b : Int} (hb : 0 ≤ b ∧ b ≤ 65535) {ds : List (List UInt8)} (h : ds.length ≤ 20 ∧ okS ds = true) : ∀ r ∈ recsF b ds, whyF r = 0 := by
  intro r hr
  obtain ⟨k, hk, rfl⟩ := List.getElem_of_mem hr
  have hk2 : k < ds.length := by simpa [recsF] using hk
  rw [recsF_get, why_rec hb (by omega)]
  have := (List.all_eq_true.1 h.2) ds[k] (List.getElem_mem hk2)
  simp only [decide_eq_true_eq] at this
  rw [if_pos this]

set_option maxRecDepth 8000 in
theorem segRow_spec (b : Int) (hb : 0 ≤ b ∧ b ≤ 65535) (ds : List (List UInt8)) (hl : ds.length ≤ 9223372036854775807) (hs : ∀ d ∈ ds, d.length ≤ 9223372036854775807) : call 16 [vi b, vl (ds.map encS)] [] = some (segRowV b ds, []) := by
  apply enterS s16 rfl
  obtain ⟨W, hW⟩ : ∃ W, W = segRowV b ds := ⟨_, rfl⟩
  obtain ⟨l, hl2⟩ : ∃ l, l = recsF b ds := ⟨_, rfl⟩
  have hll : l.length = ds.length := by rw [hl2, recsF_len]
  rw [← hW]
  unfold segRowV at hW
  rw [← hl2] at hW
  by_cases c0 : ds.length ≤ 20
  · (simp (disch := first | decide | omega | (intros; exact Eq.trans rfl rfl) | (simp only [puri]; done)) only [a16, vis, visL, visB, fillR, rowsAt, toDs, toD, ↓ops_cons, ↓ops_consz, fzTs, fzLs, rg, rd, o, oz, kc, kb, ks, kx, on, og, od, ogd, A.run, evI, evOpt, evs, evP, argF, V.cs, binD, fzV, fzL, fzVs, dataVs, dataLs, V.data, L.data, unD, fillL, List.take_succ_cons, List.take_zero, List.drop_succ_cons, List.drop_zero, List.cons_append, ne_eq, Nat.reduceLT, Nat.reduceBEq, ↓reduceIte, Nat.reduceEqDiff, Nat.reduceAdd, Nat.reduceMul, Nat.reduceSub, Int.reduceToNat, Nat.reduceLeDiff, Int.reduceNeg, Int.reduceEq, Int.reduceLT, Int.reduceLE, Int.reduceBEq, Int.reduceBNe, Int.reduceToNat, dis])
    refine loop_box (σ := Nat) (fun i => ds.length - i) (fun i => i ≤ ds.length ∧ okS (ds.take i) = true ∧ endR l i ≤ 82 * i) (fun i => [vi b, vl (ds.map encS), vs (rowS (l.take i)), .one (.sl 0 1 0 (i + 1)), vi i]) (fun i => [.arr 1 ((endsR l i).map encN) 0])
      (fun _ => (W, ([] : Hp))) ?_ 0 ⟨Nat.zero_le _, rfl, by simp [endR, rowS]⟩ _ _ ?_
    rotate_left
    · exact (at_head2 (by decide) (by simp only [List.map_cons, List.map_nil, vis, visL, visB, fillR, rowsAt, toDs, toD, ↓ops_cons, ↓ops_consz, fzTs, fzLs, rg, rd, o, oz, kc, kb, ks, kx, on, og, od, ogd, A.run, evI, evOpt, evs, evP, argF, V.cs, binD, fzV, fzL, fzVs, dataVs, dataLs, V.data, L.data, unD, fillL, List.take_succ_cons, List.take_zero, List.drop_succ_cons, List.drop_zero, List.cons_append, ne_eq, Nat.reduceLT, Nat.reduceBEq, ↓reduceIte, Nat.reduceEqDiff, Nat.reduceAdd, Nat.reduceMul, Nat.reduceSub, Int.reduceToNat, Nat.reduceLeDiff, Int.reduceNeg, Int.reduceEq, Int.reduceLT, Int.reduceLE, Int.reduceBEq, Int.reduceBNe, Int.reduceToNat]; exact rfl) (by simp [idsOf, reach, place_cons, place_nil, canonH, V.ren, L.ren, Box.ren, V.refs, L.refs, Box.refs, endsR, encN, endR, rowS]) (by simp [idsOf, reach, place_cons, place_nil, canonH, V.ren, L.ren, Box.ren, V.refs, L.refs, Box.refs, endsR, encN, endR, rowS]))
    rintro i ⟨hi, hg, he⟩ R hR
    have hel : (rowS (l.take i)).length ≤ 82 * i := he
    rcases Nat.lt_or_ge i ds.length with h | h
    · have hlen := endsR_len l i
      have hil : i < l.length := by omega
      have hli : l[i] = ⟨b + i, i, ds[i]⟩ := by subst hl2; rw [recsF_get]
      have hp := refPutRec_spec l[i] (by rw [hli]; exact ⟨⟨by simp only []; omega, by simp only []; omega⟩, ⟨by simp only []; omega, by simp only []; omega⟩, hs _ (List.getElem_mem h)⟩)
      have hwy := why_rec hb (i := i) (by omega) ds[i]
      rw [← hli] at hwy
      unfold putR at hp
      rw [hwy] at hp
      by_cases c1 : ds[i].length ≤ 64
      · rw [if_pos c1, if_pos rfl] at hp
        rw [if_pos c1] at hwy
        have hfl := frameR_le hwy
        have hsn := rowS_succ l i hil
        have hes := endR_succ l i hil
        have hall : okS (ds.take (i + 1)) = true := by unfold okS at *; rw [take_succ_get ds i h, List.all_append, hg]; simp [c1]
        have hrl : (rowS (l.take i)).length = endR l i := rfl
        have hen : endR l i + (frameR l[i]).length = endR l (i + 1) := hes.symm
        change call 24 _ [] = some (V.tup [(false, [.d (.s (frameR l[i]))]), _], []) at hp
        rw [hli] at hp
        simp only [Rec.enc, List.map_cons, List.map_nil] at hp
        rw [← hli] at hp
        (simp (disch := first | decide | omega | (intros; exact Eq.trans rfl rfl) | (simp only [puri]; done)) only [a16_0, encS_len, encS_at, hp, hlen, hrl, vis, visL, visB, fillR, rowsAt, toDs, toD, ↓ops_cons, ↓ops_consz, fzTs, fzLs, rg, rd, o, oz, kc, kb, ks, kx, on, og, od, ogd, A.run, evI, evOpt, evs, evP, argF, V.cs, binD, fzV, fzL, fzVs, dataVs, dataLs, V.data, L.data, unD, fillL, List.take_succ_cons, List.take_zero, List.drop_succ_cons, List.drop_zero, List.cons_append, ne_eq, Nat.reduceLT, Nat.reduceBEq, ↓reduceIte, Nat.reduceEqDiff, Nat.reduceAdd, Nat.reduceMul, Nat.reduceSub, Int.reduceToNat, Nat.reduceLeDiff, Int.reduceNeg, Int.reduceEq, Int.reduceLT, Int.reduceLE, Int.reduceBEq, Int.reduceBNe, Int.reduceToNat, dis])
        exact hR (i + 1) (by omega) ⟨by omega, hall, by omega⟩ _ _ (at_head2 (by decide) (by simp only [List.map_cons, List.map_nil, vis, visL, visB, fillR, rowsAt, toDs, toD, ↓ops_cons, ↓ops_consz, fzTs, fzLs, rg, rd, o, oz, kc, kb, ks, kx, on, og, od, ogd, A.run, evI, evOpt, evs, evP, argF, V.cs, binD, fzV, fzL, fzVs, dataVs, dataLs, V.data, L.data, unD, fillL, List.take_succ_cons, List.take_zero, List.drop_succ_cons, List.drop_zero, List.cons_append, ne_eq, Nat.reduceLT, Nat.reduceBEq, ↓reduceIte, Nat.reduceEqDiff, Nat.reduceAdd, Nat.reduceMul, Nat.reduceSub, Int.reduceToNat, Nat.reduceLeDiff, Int.reduceNeg, Int.reduceEq, Int.reduceLT, Int.reduceLE, Int.reduceBEq, Int.reduceBNe, Int.reduceToNat]; exact rfl) (by simp [idsOf, reach, place_cons, place_nil, canonH, V.ren, L.ren, Box.ren, V.refs, L.refs, Box.refs, hsn, endsR_succ, encN, hes]) (by simp [idsOf, reach, place_cons, place_nil, canonH, V.ren, L.ren, Box.ren, V.refs, L.refs, Box.refs, hsn, endsR_succ, encN, hes]))
      · have hna : ¬ (ds.length ≤ 20 ∧ okS ds = true) := by
          rintro ⟨_, h2⟩
          have := (List.all_eq_true.1 h2) ds[i] (List.getElem_mem h)
          exact c1 (by simpa using this)
        rw [if_neg hna] at hW
        rw [if_neg c1, if_neg (by decide)] at hp
        rw [hli] at hp
        simp only [Rec.enc, List.map_cons, List.map_nil] at hp
        (simp (disch := first | decide | omega | (intros; exact Eq.trans rfl rfl) | (simp only [puri]; done)) only [a16_0, encS_len, encS_at, hp, hW, vis, visL, visB, fillR, rowsAt, toDs, toD, ↓ops_cons, ↓ops_consz, fzTs, fzLs, rg, rd, o, oz, kc, kb, ks, kx, on, og, od, ogd, A.run, evI, evOpt, evs, evP, argF, V.cs, binD, fzV, fzL, fzVs, dataVs, dataLs, V.data, L.data, unD, fillL, List.take_succ_cons, List.take_zero, List.drop_succ_cons, List.drop_zero, List.cons_append, ne_eq, Nat.reduceLT, Nat.reduceBEq, ↓reduceIte, Nat.reduceEqDiff, Nat.reduceAdd, Nat.reduceMul, Nat.reduceSub, Int.reduceToNat, Nat.reduceLeDiff, Int.reduceNeg, Int.reduceEq, Int.reduceLT, Int.reduceLE, Int.reduceBEq, Int.reduceBNe, Int.reduceToNat, dis])
        try simp [trim, V.refs, L.refs]
    · have hil : i = ds.length := by omega
      subst hil
      rw [List.take_of_length_le (Nat.le_refl _)] at hg
      rw [if_pos ⟨c0, hg⟩] at hW
      have hlen := endsR_len l ds.length
      (simp (disch := first | decide | omega | (intros; exact Eq.trans rfl rfl) | (simp only [puri]; done)) only [a16_0, hlen, hW, vis, visL, visB, fillR, rowsAt, toDs, toD, ↓ops_cons, ↓ops_consz, fzTs, fzLs, rg, rd, o, oz, kc, kb, ks, kx, on, og, od, ogd, A.run, evI, evOpt, evs, evP, argF, V.cs, binD, fzV, fzL, fzVs, dataVs, dataLs, V.data, L.data, unD, fillL, List.take_succ_cons, List.take_zero, List.drop_succ_cons, List.drop_zero, List.cons_append, ne_eq, Nat.reduceLT, Nat.reduceBEq, ↓reduceIte, Nat.reduceEqDiff, Nat.reduceAdd, Nat.reduceMul, Nat.reduceSub, Int.reduceToNat, Nat.reduceLeDiff, Int.reduceNeg, Int.reduceEq, Int.reduceLT, Int.reduceLE, Int.reduceBEq, Int.reduceBNe, Int.reduceToNat, dis])
      try simp [trim, V.refs, L.refs, List.take_of_length_le, hlen, hll]
  · rw [if_neg (by omega)] at hW
    (simp (disch := first | decide | omega | (intros; exact Eq.trans rfl rfl) | (simp only [puri]; done)) only [a16, hW, vis, visL, visB, fillR, rowsAt, toDs, toD, ↓ops_cons, ↓ops_consz, fzTs, fzLs, rg, rd, o, oz, kc, kb, ks, kx, on, og, od, ogd, A.run, evI, evOpt, evs, evP, argF, V.cs, binD, fzV, fzL, fzVs, dataVs, dataLs, V.data, L.data, unD, fillL, List.take_succ_cons, List.take_zero, List.drop_succ_cons, List.drop_zero, List.cons_append, ne_eq, Nat.reduceLT, Nat.reduceBEq, ↓reduceIte, Nat.reduceEqDiff, Nat.reduceAdd, Nat.reduceMul, Nat.reduceSub, Int.reduceToNat, Nat.reduceLeDiff, Int.reduceNeg, Int.reduceEq, Int.reduceLT, Int.reduceLE, Int.reduceBEq, Int.reduceBNe, Int.reduceToNat, dis])
    try simp [trim, V.refs, L.refs]
end Go.Proofs.Ythijgiinafanfaa
