import Derived.Test.YtogleebbifpijaaW78
set_option linter.unusedSimpArgs false
set_option linter.unusedVariables false
namespace Go.Proofs.Ytogleebbifpijaa
open Go.Vi
set_option linter.unusedSimpArgs false

def le4 : List UInt8 → Nat
  | [] => 0
  | c :: r => c.toNat + 256 * le4 r
theorem wrap_u32 {n : Int} (h : 0 ≤ n ∧ n < 4294967296) : IntKind.u32.wrap n = n := by
  show n % 4294967296 = n
  omega
theorem or32 (a b n : Nat) (ha : a < 2 ^ n) (hb : b * 2 ^ n + a < 4294967296) : binD .or (.i .u32 ((a : Nat) : Int)) (.i .u32 ((b * 2 ^ n : Nat) : Int)) = some (.i .u32 ((a + b * 2 ^ n : Nat) : Int)) := by
  simp only [binD, ne_eq, not_true_eq_false, if_false]
  have h1 : ∀ x : Nat, x < 4294967296 → BitVec.ofInt 32 ((x : Nat) : Int) = BitVec.ofNat 32 x := by
    intro x hx; apply BitVec.eq_of_toNat_eq; simp
  rw [show IntKind.u32.bits = 32 from rfl, h1 _ (by omega), h1 _ (by omega)]
  have h2 : (BitVec.ofNat 32 a ||| BitVec.ofNat 32 (b * 2 ^ n)).toNat = a + b * 2 ^ n := by
    rw [BitVec.toNat_or, BitVec.toNat_ofNat, BitVec.toNat_ofNat, Nat.mod_eq_of_lt (by omega), Nat.mod_eq_of_lt (by omega), Nat.or_comm, ← Nat.shiftLeft_eq, ← Nat.shiftLeft_add_eq_or_of_lt ha, Nat.add_comm]
  rw [h2, wrap_u32 (by omega)]
theorem shl32 (c i : Nat) (hc : c < 256) (hi : i ≤ 3) : binD .shl (.i .u32 ((c : Nat) : Int)) (.i .u64 (8 * ((i : Nat) : Int))) = some (.i .u32 ((c * 2 ^ (8 * i) : Nat) : Int)) := by
  have h2 : 2 ^ (8 * i) ≤ 2 ^ 24 := Nat.pow_le_pow_right (by decide) (by omega)
  have h3 : (c + 1) * 2 ^ (8 * i) ≤ 256 * 2 ^ 24 := Nat.mul_le_mul (by omega) h2
  have h4 : (256 : Nat) * 2 ^ 24 = 4294967296 := by decide
  have h5 : (c + 1) * 2 ^ (8 * i) = c * 2 ^ (8 * i) + 2 ^ (8 * i) := by rw [Nat.add_mul, Nat.one_mul]
  have hp : 0 < 2 ^ (8 * i) := Nat.pow_pos (by decide)
  simp only [binD]
  rw [if_neg (by omega)]
  have e1 : (8 * ((i : Nat) : Int)).toNat = 8 * i := by omega
  have e2 : min (8 * i) IntKind.u32.bits = 8 * i := Nat.min_eq_left (by show 8 * i ≤ 32; omega)
  rw [e1, e2]
  have e3 : ((c : Nat) : Int) * 2 ^ (8 * i) = ((c * 2 ^ (8 * i) : Nat) : Int) := by simp
  rw [e3, wrap_u32 (by omega)]
theorem le4_snoc : ∀ (s : List UInt8) (c : UInt8), le4 (s ++ [c]) = le4 s + c.toNat * 256 ^ s.length
  | [], c => by simp [le4]
  | a :: s, c => by
    simp only [List.cons_append, le4, le4_snoc s c, List.length_cons, Nat.pow_succ, Nat.mul_add, Nat.add_assoc]
    congr 2
    rw [Nat.mul_left_comm, Nat.mul_comm 256 (256 ^ s.length)]
theorem le4_lt : ∀ (s : List UInt8), le4 s < 256 ^ s.length
  | [] => by simp [le4]
  | a :: s => by
    have := le4_lt s
    have := a.toNat_lt
    simp only [le4, List.length_cons, Nat.pow_succ]
    omega
set_option maxRecDepth 8000 in
theorem rfour_spec (t : RdS) (hl : t.1.length ≤ 1000000) : call 28 [.one (.p 0 0)] [rdrB t] = some (vk .u32 ((le4 (txt 4 t).1 : Nat) : Int), [rdrB (txt 4 t).2]) := by
  apply enterS s28 rfl
  have ht : call 45 [.one (.p 0 0), vi 4] [rdrB t] = some (vs (txt 4 t).1, [rdrB (txt 4 t).2]) := rtext_spec t 4 (by unfold natI; decide) hl
  have hs : (txt 4 t).1.length ≤ 4 := by
    unfold txt
    split
    · simp; omega
    · simp
  obtain ⟨⟨s, t2⟩, hx⟩ : ∃ x, txt 4 t = x := ⟨_, rfl⟩
  rw [hx] at ht hs ⊢
  simp only at ht hs ⊢
  have hti : callIso call 45 [.one (.p 0 0), vi 4] [rdrB t] = some (vs s, [rdrB t2]) := iso_at rfl rfl rfl ht rfl
  obtain ⟨Z, hZ⟩ : ∃ Z : V × Hp, Z = (vk .u32 ((le4 s : Nat) : Int), [rdrB t2]) := ⟨_, rfl⟩
  rw [← hZ]
  (simp (disch := first | decide | omega | (intros; exact Eq.trans rfl rfl) | (simp only [puri]; done)) only [a28, hti, vis, visL, visB, fillR, rowsAt, toDs, toD, ↓ops_cons, ↓ops_consz, fzTs, fzLs, rg, rd, o, oz, kc, kb, ks, kx, on, og, od, ogd, A.run, evI, evOpt, evs, evP, argF, V.cs, binD, fzV, fzL, fzVs, dataVs, dataLs, V.data, L.data, unD, fillL, List.take_succ_cons, List.take_zero, List.drop_succ_cons, List.drop_zero, List.cons_append, ne_eq, Nat.reduceLT, Nat.reduceBEq, ↓reduceIte, Nat.reduceEqDiff, Nat.reduceAdd, Nat.reduceMul, Nat.reduceSub, Int.reduceToNat, Nat.reduceLeDiff, Int.reduceNeg, Int.reduceEq, Int.reduceLT, Int.reduceLE, Int.reduceBEq, Int.reduceBNe, Int.reduceToNat, dis])
  refine loop_boxM (m := 1) (σ := Nat) (fun i => s.length - i) (fun i => i ≤ s.length) (fun i => [vs s, vk .u32 ((le4 (s.take i) : Nat) : Int), vi s.length, vi i]) (fun _ => [rdrB t2]) (fun _ => Z) ?_ 0 (Nat.zero_le _) _ _ ?_
  rotate_left
  · exact (at_headM (by decide) (by simp only [List.map_cons, List.map_nil, vis, visL, visB, fillR, rowsAt, toDs, toD, ↓ops_cons, ↓ops_consz, fzTs, fzLs, rg, rd, o, oz, kc, kb, ks, kx, on, og, od, ogd, A.run, evI, evOpt, evs, evP, argF, V.cs, binD, fzV, fzL, fzVs, dataVs, dataLs, V.data, L.data, unD, fillL, List.take_succ_cons, List.take_zero, List.drop_succ_cons, List.drop_zero, List.cons_append, ne_eq, Nat.reduceLT, Nat.reduceBEq, ↓reduceIte, Nat.reduceEqDiff, Nat.reduceAdd, Nat.reduceMul, Nat.reduceSub, Int.reduceToNat, Nat.reduceLeDiff, Int.reduceNeg, Int.reduceEq, Int.reduceLT, Int.reduceLE, Int.reduceBEq, Int.reduceBNe, Int.reduceToNat]; exact rfl) (by rfl) (by rfl) (by rfl))
  intro i hi R hR
  rcases Nat.lt_or_ge i s.length with h | h
  · have e := le4_snoc (s.take i) s[i]
    rw [← take_succ_get s i h] at e
    have hlt := le4_lt (s.take i)
    have htl : (s.take i).length = i := by simp; omega
    rw [htl] at e hlt
    have hp : (2 : Nat) ^ (8 * i) = 256 ^ i := by rw [Nat.pow_mul]
    have hsh := shl32 s[i].toNat i s[i].toNat_lt (by omega)
    have hlt2 := le4_lt (s.take (i + 1))
    have htl2 : (s.take (i + 1)).length = i + 1 := by simp; omega
    rw [htl2] at hlt2
    have hmx : 256 ^ (i + 1) ≤ 256 ^ 4 := Nat.pow_le_pow_right (by decide) (by omega)
    have h44 : (256 : Nat) ^ 4 = 4294967296 := by decide
    have hor := or32 (le4 (s.take i)) s[i].toNat (8 * i) (by rw [hp]; exact hlt) (by rw [hp]; omega)
    rw [hp] at hsh hor
    have hw0 : IntKind.u32.wrap ((s[i].toNat : Nat) : Int) = ((s[i].toNat : Nat) : Int) := wrap_u32 (by have := s[i].toNat_lt; omega)
    have hw1 : IntKind.u64.wrap (8 * ((i : Nat) : Int)) = 8 * ((i : Nat) : Int) := wrap_u64 (by omega)
    have hR' := hR (i + 1) (by omega) (by omega)
    rw [e] at hR'
    (simp (disch := first | decide | omega | (intros; exact Eq.trans rfl rfl) | (simp only [puri]; done)) only [a28_0, (List.getElem?_eq_getElem h), hw0, hw1, ↓hsh, ↓hor, vis, visL, visB, fillR, rowsAt, toDs, toD, ↓ops_cons, ↓ops_consz, fzTs, fzLs, rg, rd, o, oz, kc, kb, ks, kx, on, og, od, ogd, A.run, evI, evOpt, evs, evP, argF, V.cs, binD, fzV, fzL, fzVs, dataVs, dataLs, V.data, L.data, unD, fillL, List.take_succ_cons, List.take_zero, List.drop_succ_cons, List.drop_zero, List.cons_append, ne_eq, Nat.reduceLT, Nat.reduceBEq, ↓reduceIte, Nat.reduceEqDiff, Nat.reduceAdd, Nat.reduceMul, Nat.reduceSub, Int.reduceToNat, Nat.reduceLeDiff, Int.reduceNeg, Int.reduceEq, Int.reduceLT, Int.reduceLE, Int.reduceBEq, Int.reduceBNe, Int.reduceToNat, dis])
    exact hR' _ _ (at_headM (by decide) (by simp only [List.map_cons, List.map_nil, vis, visL, visB, fillR, rowsAt, toDs, toD, ↓ops_cons, ↓ops_consz, fzTs, fzLs, rg, rd, o, oz, kc, kb, ks, kx, on, og, od, ogd, A.run, evI, evOpt, evs, evP, argF, V.cs, binD, fzV, fzL, fzVs, dataVs, dataLs, V.data, L.data, unD, fillL, List.take_succ_cons, List.take_zero, List.drop_succ_cons, List.drop_zero, List.cons_append, ne_eq, Nat.reduceLT, Nat.reduceBEq, ↓reduceIte, Nat.reduceEqDiff, Nat.reduceAdd, Nat.reduceMul, Nat.reduceSub, Int.reduceToNat, Nat.reduceLeDiff, Int.reduceNeg, Int.reduceEq, Int.reduceLT, Int.reduceLE, Int.reduceBEq, Int.reduceBNe, Int.reduceToNat]; exact rfl) (by rfl) (by rfl) (by rfl))
  · rw [List.take_of_length_le h]
    (simp (disch := first | decide | omega | (intros; exact Eq.trans rfl rfl) | (simp only [puri]; done)) only [a28_0, hZ, vis, visL, visB, fillR, rowsAt, toDs, toD, ↓ops_cons, ↓ops_consz, fzTs, fzLs, rg, rd, o, oz, kc, kb, ks, kx, on, og, od, ogd, A.run, evI, evOpt, evs, evP, argF, V.cs, binD, fzV, fzL, fzVs, dataVs, dataLs, V.data, L.data, unD, fillL, List.take_succ_cons, List.take_zero, List.drop_succ_cons, List.drop_zero, List.cons_append, ne_eq, Nat.reduceLT, Nat.reduceBEq, ↓reduceIte, Nat.reduceEqDiff, Nat.reduceAdd, Nat.reduceMul, Nat.reduceSub, Int.reduceToNat, Nat.reduceLeDiff, Int.reduceNeg, Int.reduceEq, Int.reduceLT, Int.reduceLE, Int.reduceBEq, Int.reduceBNe, Int.reduceToNat, dis])
    simp [trim, V.refs, L.refs, Box.refs]
end Go.Proofs.Ytogleebbifpijaa
