import Derived.Test.YthijgiinafanfaaS61
set_option linter.unusedSimpArgs false
set_option linter.unusedVariables false
namespace Go.Proofs.Ythijgiinafanfaa
open Go.Vi
set_option linter.unusedSimpArgs false

def w2 : List Rec := [⟨3, 0, [97]⟩, ⟨4, 0, [98]⟩]
theorem w2_num : numB 3 w2 := by
  intro k h
  have : k = 0 ∨ k = 1 := by simp [w2] at h; omega
  rcases this with rfl | rfl <;> rfl
theorem w2_why : ∀ r ∈ w2, whyF r = 0 := by decide
theorem w2_body3 : bodyF ⟨3, 0, [97]⟩ = [3, 0, 97] := by
  unfold bodyF
  simp only []
  rw [show (3 : Int).toNat = 3 from rfl, show (0 : Int).toNat = 0 from rfl, enc_small (by decide), enc_small (by decide)]; rfl
theorem w2_body4 : bodyF ⟨4, 0, [98]⟩ = [4, 0, 98] := by
  unfold bodyF
  simp only []
  rw [show (4 : Int).toNat = 4 from rfl, show (0 : Int).toNat = 0 from rfl, enc_small (by decide), enc_small (by decide)]; rfl
theorem w2_end1 : endR w2 1 = 8 := by
  show (rowS [⟨3, 0, [97]⟩]).length = 8
  rw [rowS_cons, w2_body3]
  rw [show rowS [] = [] from rfl, List.append_nil, frameF_len, nd_small (by decide)]; rfl
theorem w2_end2 : endR w2 2 = 16 := by
  have := endR_succ w2 1 (by decide)
  rw [w2_end1] at this
  rw [this]
  show 8 + (frameF (bodyF ⟨4, 0, [98]⟩)).length = 16
  rw [w2_body4, frameF_len, nd_small (by decide)]; rfl
set_option maxRecDepth 8000 in
theorem segAwake_spec : call 7 [] [] = some (vb true, []) := by
  apply enterS s7 rfl
  have hlen : (rowS w2).length = 16 := w2_end2
  have hrow := refRow_spec w2 (by decide) (by
    intro r hr
    simp only [w2, List.mem_cons, List.not_mem_nil, or_false] at hr
    rcases hr with rfl | rfl <;> exact ⟨⟨by decide, by decide⟩, ⟨by decide, by decide⟩, by decide⟩)
  unfold rowRV at hrow
  rw [if_pos (by decide)] at hrow
  have hrow' : call 17 [vl [[.i .i64 3, .i .i64 0, .s [97]], [.i .i64 4, .i .i64 0, .s [98]]]] [] = some (V.tup [(false, [L.d (D.s (rowS w2))]), (false, [L.d (D.i .i64 0)])], []) := hrow
  have hcut := scan_cut w2 3 (by decide) w2_why w2_num 1 15 (by decide) (by rw [w2_end1]; decide) (by intro h; simp [w2] at h) (by intro _; rw [w2_end2]; decide)
  rw [w2_end1] at hcut
  have hsc := scan_spec ((rowS w2).take 15) (by simp; omega) 3 (by decide)
  obtain ⟨⟨pl, p, e⟩, hx⟩ : ∃ x, scanS ((rowS w2).take 15) 3 = x := ⟨_, rfl⟩
  rw [hx] at hcut hsc
  have hc2 : p = 8 ∧ e = 2 := by have := hcut.2; simp at this; exact this
  have hpl : pl.length = 1 := by have := congrArg List.length hcut.1; simpa [w2] using this
  unfold scanV at hsc
  simp only [hc2.1, hc2.2] at hsc
  have hix := index_spec (rowS w2) (by omega) 3 1 (by decide) (by decide)
  have hrd := readIdx_spec (rowS w2) (by omega) 3 1 4 (by decide)
  rw [(scan_row w2 3 (by decide) w2_why w2_num).1] at hrd
  have hrd2 : readL w2 4 = .tup [(true, [.d (.i .i64 4), .d (.i .i64 0), .d (.s [98])]), (false, [.d (.i .i64 0)])] := rfl
  rw [hrd2] at hrd
  have hq : (([98] : List UInt8) == [98]) = true := by decide
  have hsq : scEqs [0, 0, 2] [L.d (.i .i64 4), .d (.i .i64 0), .d (.s [98])] [.d (.i .i64 4), .d (.i .i64 0), .d (.s [98])] = some true := by rfl
  have h16 : ((16 : Nat) : Int) = 16 := rfl
  have h8 : ((8 : Nat) : Int) = 8 := rfl
  have ht8 : Int.tdiv 16 2 = 8 := rfl
  have hto : ((16 : Int) - 1).toNat = 15 := rfl
  (simp (disch := first | decide | omega | (intros; exact Eq.trans rfl rfl) | (simp only [puri]; done)) only [a7, hrow', hlen, hsc, hpl, hix, hrd, hq, hsq, List.length_map, h16, h8, ht8, hto, vis, visL, visB, fillR, rowsAt, toDs, toD, ↓ops_cons, ↓ops_consz, fzTs, fzLs, rg, rd, o, oz, kc, kb, ks, kx, on, og, od, ogd, A.run, evI, evOpt, evs, evP, argF, V.cs, binD, fzV, fzL, fzVs, dataVs, dataLs, V.data, L.data, unD, fillL, List.take_succ_cons, List.take_zero, List.drop_succ_cons, List.drop_zero, List.cons_append, ne_eq, Nat.reduceLT, Nat.reduceBEq, ↓reduceIte, Nat.reduceEqDiff, Nat.reduceAdd, Nat.reduceMul, Nat.reduceSub, Int.reduceToNat, Nat.reduceLeDiff, Int.reduceNeg, Int.reduceEq, Int.reduceLT, Int.reduceLE, Int.reduceBEq, Int.reduceBNe, Int.reduceToNat, dis])
  try simp [trim]
theorem segScans_law1 (s : List UInt8) (hs : s.length ≤ 9223372036854775807) (b : Int) (hb : -9223372036854775808 ≤ b ∧ b < 9223372036854775808) (e : Nat) (he : e < 256) : call 3 [vs s, vi b, vk .u8 ((e : Nat) : Int)] [] = some (vb true, []) := by
  apply enterS s3 rfl
  have haw := segAwake_spec
  by_cases c : s.length ≤ 2000
  · have p1 := scan_spec s (by omega) b hb
    have p2 := refScan_spec s (by omega) b hb
    have hle := scanS_len s b
    have hil := indexM_len b (1 + e) (scanS s b).1
    have p3 := index_spec s (by omega) b (1 + e) hb (by omega)
    have p4 := refIndex_spec s (by omega) b (1 + e) hb (by omega)
    have p5 := sameM_spec (indexS s b (1 + e)) (by unfold indexS; omega)
    have p6 := same_spec ((scanS s b).1.map (·.1)) ((scanS s b).1.map (·.1)) (by simp; omega)
    rw [decide_eq_true rfl, List.map_map] at p6
    have p6' : call 10 [vl ((scanS s b).1.map fun x => x.1.enc), vl ((scanS s b).1.map fun x => x.1.enc)] [] = some (vb true, []) := p6
    unfold scanV at p1 p2
    (simp (disch := first | decide | omega | (intros; exact Eq.trans rfl rfl) | (simp only [puri]; done)) only [a3, haw, p1, p2, p3, p4, p5, p6', vis, visL, visB, fillR, rowsAt, toDs, toD, ↓ops_cons, ↓ops_consz, fzTs, fzLs, rg, rd, o, oz, kc, kb, ks, kx, on, og, od, ogd, A.run, evI, evOpt, evs, evP, argF, V.cs, binD, fzV, fzL, fzVs, dataVs, dataLs, V.data, L.data, unD, fillL, List.take_succ_cons, List.take_zero, List.drop_succ_cons, List.drop_zero, List.cons_append, ne_eq, Nat.reduceLT, Nat.reduceBEq, ↓reduceIte, Nat.reduceEqDiff, Nat.reduceAdd, Nat.reduceMul, Nat.reduceSub, Int.reduceToNat, Nat.reduceLeDiff, Int.reduceNeg, Int.reduceEq, Int.reduceLT, Int.reduceLE, Int.reduceBEq, Int.reduceBNe, Int.reduceToNat, dis])
    try simp
  · (simp (disch := first | decide | omega | (intros; exact Eq.trans rfl rfl) | (simp only [puri]; done)) only [a3, haw, vis, visL, visB, fillR, rowsAt, toDs, toD, ↓ops_cons, ↓ops_consz, fzTs, fzLs, rg, rd, o, oz, kc, kb, ks, kx, on, og, od, ogd, A.run, evI, evOpt, evs, evP, argF, V.cs, binD, fzV, fzL, fzVs, dataVs, dataLs, V.data, L.data, unD, fillL, List.take_succ_cons, List.take_zero, List.drop_succ_cons, List.drop_zero, List.cons_append, ne_eq, Nat.reduceLT, Nat.reduceBEq, ↓reduceIte, Nat.reduceEqDiff, Nat.reduceAdd, Nat.reduceMul, Nat.reduceSub, Int.reduceToNat, Nat.reduceLeDiff, Int.reduceNeg, Int.reduceEq, Int.reduceLT, Int.reduceLE, Int.reduceBEq, Int.reduceBNe, Int.reduceToNat, dis])
end Go.Proofs.Ythijgiinafanfaa
