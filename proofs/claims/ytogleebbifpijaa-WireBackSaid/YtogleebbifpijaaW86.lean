import Derived.Test.YtogleebbifpijaaW85
set_option linter.unusedSimpArgs false
set_option linter.unusedVariables false
namespace Go.Proofs.Ytogleebbifpijaa
open Go.Vi
set_option linter.unusedSimpArgs false

/-! ### what is put comes back -/
theorem num_enc (n : Int) (h : natI n) (r : List UInt8) : num (enc128 n.toNat ++ r, false) = (n, (r, false)) := by
  unfold natI at h
  have e := rdF_of0 n.toNat r (by omega)
  rw [num_ok e]
  have e2 : ((n.toNat : Nat) : Int) = n := by omega
  rw [e2]
  have : (enc128 n.toNat ++ r).drop (nd n.toNat) = r := by unfold nd; rw [List.drop_left]
  rw [this]
theorem numsB_cons (n : Int) (l : List Int) : numsB (n :: l) = enc128 n.toNat ++ numsB l := rfl
theorem txt_app (d r : List UInt8) : txt (d.length : Int) (d ++ r, false) = (d, (r, false)) := by
  unfold txt
  rw [if_pos ⟨rfl, by simp only [List.length_append]; omega⟩, Int.toNat_natCast, List.take_left, List.drop_left]
theorem recsGo_back : ∀ (l : List Rec) (a : Int) (r : List UInt8), rowB a l = true → 0 ≤ a ∧ a ≤ 2199023255552 → l.length ≤ 64 → recsGo l.length a (recsB l ++ r, false) = (l, (r, false))
  | [], a, r, _, _, _ => by simp [recsGo, recsB]
  | x :: l, a, r, h, ha, hl => by
    have hall := rowB_right (x :: l) a h
    simp only [rowB, Bool.and_eq_true, decide_eq_true_eq] at h
    obtain ⟨h1, h2, h3⟩ := h
    have hn := recB_nat h1
    have n1 := hn.1 x.ti (by simp)
    have n2 := hn.1 (x.da.length : Int) (by simp)
    have e : recsB (x :: l) ++ r = enc128 x.ti.toNat ++ (enc128 (x.da.length : Int).toNat ++ (x.da ++ (recsB l ++ r))) := by
      show (recB x ++ recsB l) ++ r = _
      unfold recB
      rw [numsB_cons, numsB_cons]
      simp [numsB]
    have hat := (why_fit.1 h1).a1
    have hw : IntKind.i64.wrap a = a := wrap_i (by omega)
    have ih := recsGo_back l (a + 1) r h3 (by omega) (by simp at hl; omega)
    rw [List.length_cons, recsGo_step, e, num_enc _ n1]
    simp only [num_enc _ n2, txt_app, ih, hw]
    rw [← h2]
def hd7 (m : Msg) (r : List UInt8) : List UInt8 := numsB (headNs m) ++ r
theorem hd7_spec (m : Msg) (h : ∀ n ∈ headNs m, natI n) (r : List UInt8) : vq (hd7 m r, false) 0 = m.k ∧ vq (hd7 m r, false) 1 = m.fr ∧ vq (hd7 m r, false) 2 = m.to ∧ vq (hd7 m r, false) 3 = m.inc ∧ vq (hd7 m r, false) 4 = m.peer ∧ vq (hd7 m r, false) 5 = m.seq ∧ vq (hd7 m r, false) 6 = m.at_ ∧ sq (hd7 m r, false) 7 = (r, false) := by
  have n0 := h m.k (by simp [headNs])
  have n1 := h m.fr (by simp [headNs])
  have n2 := h m.to (by simp [headNs])
  have n3 := h m.inc (by simp [headNs])
  have n4 := h m.peer (by simp [headNs])
  have n5 := h m.seq (by simp [headNs])
  have n6 := h m.at_ (by simp [headNs])
  have e : hd7 m r = enc128 m.k.toNat ++ (enc128 m.fr.toNat ++ (enc128 m.to.toNat ++ (enc128 m.inc.toNat ++ (enc128 m.peer.toNat ++ (enc128 m.seq.toNat ++ (enc128 m.at_.toNat ++ r)))))) := by
    unfold hd7 headNs; simp [numsB]
  rw [e]
  have s1 : sq (enc128 m.k.toNat ++ (enc128 m.fr.toNat ++ (enc128 m.to.toNat ++ (enc128 m.inc.toNat ++ (enc128 m.peer.toNat ++ (enc128 m.seq.toNat ++ (enc128 m.at_.toNat ++ r)))))), false) 1 = (enc128 m.fr.toNat ++ (enc128 m.to.toNat ++ (enc128 m.inc.toNat ++ (enc128 m.peer.toNat ++ (enc128 m.seq.toNat ++ (enc128 m.at_.toNat ++ r))))), false) := by show (num _).2 = _; simp only [sq, num_enc _ n0]
  have s2 := congrArg (fun t => (num t).2) s1; simp only [num_enc _ n1] at s2
  have s3 := congrArg (fun t => (num t).2) s2; simp only [num_enc _ n2] at s3
  have s4 := congrArg (fun t => (num t).2) s3; simp only [num_enc _ n3] at s4
  have s5 := congrArg (fun t => (num t).2) s4; simp only [num_enc _ n4] at s5
  have s6 := congrArg (fun t => (num t).2) s5; simp only [num_enc _ n5] at s6
  have s7 := congrArg (fun t => (num t).2) s6; simp only [num_enc _ n6] at s7
  refine ⟨?_, ?_, ?_, ?_, ?_, ?_, ?_, s7⟩
  · show (num (sq _ 0)).1 = _; simp only [sq, num_enc _ n0]
  · show (num (sq _ 1)).1 = _; rw [s1, num_enc _ n1]
  · show (num (sq _ 2)).1 = _; rw [show sq (_, false) 2 = _ from s2, num_enc _ n2]
  · show (num (sq _ 3)).1 = _; rw [show sq (_, false) 3 = _ from s3, num_enc _ n3]
  · show (num (sq _ 4)).1 = _; rw [show sq (_, false) 4 = _ from s4, num_enc _ n4]
  · show (num (sq _ 5)).1 = _; rw [show sq (_, false) 5 = _ from s5, num_enc _ n5]
  · show (num (sq _ 6)).1 = _; rw [show sq (_, false) 6 = _ from s6, num_enc _ n6]
end Go.Proofs.Ytogleebbifpijaa
