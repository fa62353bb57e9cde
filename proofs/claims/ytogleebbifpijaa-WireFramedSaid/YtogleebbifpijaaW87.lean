import Derived.Test.YtogleebbifpijaaW86
set_option linter.unusedSimpArgs false
set_option linter.unusedVariables false
namespace Go.Proofs.Ytogleebbifpijaa
open Go.Vi
set_option linter.unusedSimpArgs false

theorem le4_four (w : W32) : le4 (four w) = w.toNat := by
  have h : w.toNat < 4294967296 := w.isLt
  simp only [four, le4, UInt8.toNat_ofNat', BitVec.toNat_ushiftRight, Nat.shiftRight_eq_div_pow]
  omega
theorem parse_back (m : Msg) (h : rightM m = true) (hs : 0 ≤ m.sum ∧ m.sum < 4294967296) : parseW (bodyM m, false) = (m, ([], false)) := by
  have hp := rightP h
  have hn := headNs_nat hp
  have hh := hp.h
  have hb : bodyM m = hd7 m (tailBy m) := rfl
  obtain ⟨e0, e1, e2, e3, e4, e5, e6, e7⟩ := hd7_spec m hn (tailBy m)
  rw [hb]
  unfold parseW
  rw [e0]
  have hm0 : msg0 (hd7 m (tailBy m), false) = ⟨m.k, m.fr, m.to, m.inc, m.peer, m.seq, m.at_, 0, 0, 0, 0, 0, 0, [], []⟩ := by
    unfold msg0; rw [e0, e1, e2, e3, e4, e5, e6]
  rw [hm0, e7]
  have w1 : natI m.win := by unfold natI; omega
  have w2 : natI m.want := by unfold natI; omega
  have w3 : natI m.idx := by unfold natI; omega
  have w4 : natI m.high := by unfold natI; omega
  have w5 : natI m.size := by unfold natI; omega
  rcases hp.hk with k | k | k
  · obtain ⟨t1, t2, t3, t4, t5⟩ := tail1 k hp.t
    rw [if_pos k]
    have et : tailBy m = enc128 m.win.toNat ++ (enc128 m.want.toNat ++ (enc128 m.idx.toNat ++ [])) := by unfold tailBy; rw [if_pos k]; simp [numsB]
    unfold fetchM
    rw [et, num_enc _ w1]
    simp only [num_enc _ w2, num_enc _ w3]
    cases m
    simp only at *
    subst_vars
    rfl
  · have k1 : ¬ m.k = 1 := by omega
    obtain ⟨t1, t2, t3, t4, t5, t6⟩ := tail2 k hp.t
    have ht := hp.t
    simp only [tailB, if_neg k1, if_pos k, Bool.and_eq_true, decide_eq_true_eq] at ht
    rw [if_neg k1, if_pos k]
    have w6 : natI (m.recs.length : Int) := by unfold natI; omega
    have et : tailBy m = enc128 m.high.toNat ++ (enc128 (m.recs.length : Int).toNat ++ (recsB m.recs ++ [])) := by unfold tailBy; rw [if_neg k1, if_pos k]; simp [numsB]
    have hc : cutB (m.recs.length : Int) (recsB m.recs ++ [], false) = (recsB m.recs ++ [], false) := by unfold cutB; rw [if_neg (by omega)]
    have hg := recsGo_back m.recs m.at_ [] ht.1.1 (by omega) ht.1.2
    unfold batchM recsR
    rw [et, num_enc _ w4]
    have hne : num (enc128 m.recs.length ++ (recsB m.recs ++ []), false) = ((m.recs.length : Int), (recsB m.recs ++ [], false)) := num_enc (m.recs.length : Int) w6 _
    simp only [Int.toNat_natCast, hne, hc, hg]
    cases m
    simp only at *
    subst_vars
    rfl
  · have k1 : ¬ m.k = 1 := by omega
    have k2 : ¬ m.k = 2 := by omega
    obtain ⟨t1, t2, t3, t4⟩ := tail3 k hp.t
    rw [if_neg k1, if_neg k2, if_pos k]
    have et : tailBy m = enc128 m.size.toNat ++ (enc128 m.idx.toNat ++ (four (sumW m) ++ m.da)) := by unfold tailBy; rw [if_neg k1, if_neg k2]; simp [numsB]
    have hx : txt 4 (four (sumW m) ++ m.da, false) = (four (sumW m), (m.da, false)) := txt_app (four (sumW m)) m.da
    have hl : ((le4 (four (sumW m)) : Nat) : Int) = m.sum := by rw [le4_four]; unfold sumW; simp; omega
    unfold chunkM
    rw [et, num_enc _ w5]
    simp only [num_enc _ w3, hx, hl]
    cases m
    simp only at *
    subst_vars
    rfl
theorem get_back (m : Msg) (h : rightM m = true) (hs : 0 ≤ m.sum ∧ m.sum < 4294967296) (hb : 1 ≤ (bodyM m).length ∧ (bodyM m).length ≤ 65536) : getW (frameF (bodyM m)) = (m, 0) := by
  have hx := nextF_frame [] (bodyM m) [] hb.1 hb.2
  simp only [List.nil_append, List.append_nil, List.length_nil, Nat.zero_add] at hx
  unfold getW
  rw [hx]
  simp only [↓reduceIte]
  have e : decide ((frameF (bodyM m)).length ≠ (frameF (bodyM m)).length) = false := by simp
  rw [e, parse_back m h hs]
  simp [finM, h]
end Go.Proofs.Ytogleebbifpijaa
