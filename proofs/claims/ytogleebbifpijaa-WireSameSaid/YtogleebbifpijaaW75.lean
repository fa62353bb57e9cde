import Derived.Test.YtogleebbifpijaaW74
set_option linter.unusedSimpArgs false
set_option linter.unusedVariables false
namespace Go.Proofs.Ytogleebbifpijaa
open Go.Vi
set_option linter.unusedSimpArgs false

def headNs (m : Msg) : List Int := [m.k, m.fr, m.to, m.inc, m.peer, m.seq, m.at_]
def recB (r : Rec) : List UInt8 := numsB [r.ti, (r.da.length : Int)] ++ r.da
def recsB (l : List Rec) : List UInt8 := l.flatMap recB
def sumW (m : Msg) : W32 := BitVec.ofNat 32 m.sum.toNat
def tailBy (m : Msg) : List UInt8 := if m.k = 1 then numsB [m.win, m.want, m.idx] else if m.k = 2 then numsB [m.high, (m.recs.length : Int)] ++ recsB m.recs else numsB [m.size, m.idx] ++ (four (sumW m) ++ m.da)
def bodyM (m : Msg) : List UInt8 := numsB (headNs m) ++ tailBy m
def putM (m : Msg) : V := if rightM m = true then putV (bodyM m) else .tup [(false, [.d (.s [])]), (false, [.d (.i .i64 1)])]
structure RightP (m : Msg) : Prop where
  hk : m.k = 1 ∨ m.k = 2 ∨ m.k = 3
  h : (0 ≤ m.fr ∧ m.fr ≤ 7) ∧ (0 ≤ m.to ∧ m.to ≤ 7) ∧ m.fr ≠ m.to ∧ (1 ≤ m.inc ∧ m.inc ≤ 1099511627776) ∧ (0 ≤ m.peer ∧ m.peer ≤ 1099511627776) ∧ (0 ≤ m.seq ∧ m.seq ≤ 1099511627776) ∧ (0 ≤ m.at_ ∧ m.at_ ≤ 1099511627776) ∧ (0 ≤ m.high ∧ m.high ≤ 1099511627776) ∧ (0 ≤ m.want ∧ m.want ≤ 1099511627776) ∧ (0 ≤ m.win ∧ m.win ≤ 65536) ∧ (0 ≤ m.idx ∧ m.idx ≤ 65536) ∧ (0 ≤ m.size ∧ m.size ≤ 65536)
  t : tailB m = true
theorem rightP {m : Msg} (h : rightM m = true) : RightP m := by
  simp only [rightM, Bool.and_eq_true] at h
  refine ⟨?_, of_decide_eq_true h.1, h.2⟩
  have := h.2
  unfold tailB at this
  by_cases k1 : m.k = 1
  · exact .inl k1
  · by_cases k2 : m.k = 2
    · exact .inr (.inl k2)
    · by_cases k3 : m.k = 3
      · exact .inr (.inr k3)
      · rw [if_neg k1, if_neg k2, if_neg k3] at this; cases this
theorem headNs_nat {m : Msg} (h : RightP m) : ∀ n ∈ headNs m, natI n := by
  have := h.h
  have hk := h.hk
  intro n hn
  simp only [headNs, List.mem_cons, List.not_mem_nil, or_false] at hn
  unfold natI
  rcases hn with rfl | rfl | rfl | rfl | rfl | rfl | rfl <;> omega
theorem rowB_right : ∀ (l : List Rec) (a : Int), rowB a l = true → ∀ r ∈ l, whyF r = 0
  | [], _, _, r, hr => by cases hr
  | x :: l, a, h, r, hr => by
    simp only [rowB, Bool.and_eq_true, decide_eq_true_eq] at h
    rcases List.mem_cons.1 hr with rfl | hr
    · exact h.1
    · exact rowB_right l _ h.2.2 r hr
theorem recB_nat {r : Rec} (h : whyF r = 0) : (∀ n ∈ [r.ti, (r.da.length : Int)], natI n) ∧ r.da.length ≤ 64 := by
  have hf := why_fit.1 h
  have h0 := hf.t0; have h1 := hf.t1
  have hd : r.da.length ≤ 64 := by
    unfold whyF at h
    split at h
    · split at h
      · assumption
      · cases h
    · cases h
  refine ⟨?_, hd⟩
  intro n hn
  simp only [List.mem_cons, List.not_mem_nil, or_false] at hn
  unfold natI
  rcases hn with rfl | rfl <;> omega
theorem numsB_len (l : List Int) (h : ∀ n ∈ l, natI n) : (numsB l).length ≤ 9 * l.length := by
  have := numsB_le l h l.length (Nat.le_refl _)
  rwa [List.take_of_length_le (Nat.le_refl _)] at this
theorem recB_len {r : Rec} (h : whyF r = 0) : (recB r).length ≤ 82 := by
  have h1 := recB_nat h
  have h2 := numsB_len _ h1.1
  unfold recB
  rw [List.length_append]
  simp only [List.length_cons, List.length_nil] at h2
  omega
theorem recsB_succ (l : List Rec) (i : Nat) (h : i < l.length) : recsB (l.take (i + 1)) = recsB (l.take i) ++ recB l[i] := by
  unfold recsB; rw [take_succ_get l i h, List.flatMap_append]; simp
theorem recsB_len (l : List Rec) (h : ∀ r ∈ l, whyF r = 0) : ∀ i, i ≤ l.length → (recsB (l.take i)).length ≤ 82 * i
  | 0, _ => by simp [recsB]
  | i + 1, hi => by
    have ih := recsB_len l h i (by omega)
    rw [recsB_succ l i (by omega), List.length_append]
    have := recB_len (h l[i] (List.getElem_mem _))
    omega
/-! calls of the writer, over the boxes of Put -/
theorem wNum0 (l : List Int) (q : List UInt8) (hq : q = numsB l) (hl : 0 < l.length ∧ l.length ≤ 100) (h : ∀ n ∈ l, natI n) (B : Box) :
    callIso call 19 [.one (.p 1 0), .one (.sl 2 1 0 l.length)] [B, .cells [.ns], .arr 1 (l.map encI) 0] = some (.tup [], [B, .cells [.sl 3 1 0 q.length], .arr 1 (l.map encI) 0, .arr 1 (rowsOfBytes q) 0]) := by
  subst hq
  exact iso_at rfl rfl rfl (numbers_first l hl h) rfl
theorem wNum1 (l : List Int) (bs q : List UInt8) (hq : q = bs ++ numsB l) (hl : 0 < l.length ∧ l.length ≤ 100) (hb : bs.length ≤ 1000000) (h : ∀ n ∈ l, natI n) (B C : Box) :
    callIso call 19 [.one (.p 1 0), .one (.sl 4 1 0 l.length)] [B, .cells [.sl 3 1 0 bs.length], C, .arr 1 (rowsOfBytes bs) 0, .arr 1 (l.map encI) 0] = some (.tup [], [B, .cells [.sl 5 1 0 q.length], C, .dead, .arr 1 (l.map encI) 0, .arr 1 (rowsOfBytes q) 0]) := by
  subst hq
  exact iso_at rfl rfl rfl (numbers_spec l bs hl hb h) rfl
theorem wTxt2 (t bs q : List UInt8) (hq : q = bs ++ t) (hb : bs.length ≤ 1000000) (ht : t.length ≤ 1000000) (B C D E : Box) :
    callIso call 20 [.one (.p 1 0), vs t] [B, .cells [.sl 5 1 0 bs.length], C, D, E, .arr 1 (rowsOfBytes bs) 0] = some (.tup [], [B, .cells [.sl 6 1 0 q.length], C, D, E, .dead, .arr 1 (rowsOfBytes q) 0]) := by
  subst hq
  exact iso_at rfl rfl rfl (text_spec t bs hb ht) rfl
theorem wTxt3 (t bs q : List UInt8) (hq : q = bs ++ t) (hb : bs.length ≤ 1000000) (ht : t.length ≤ 1000000) (B C D E F : Box) :
    callIso call 20 [.one (.p 1 0), vs t] [B, .cells [.sl 6 1 0 bs.length], C, D, E, F, .arr 1 (rowsOfBytes bs) 0] = some (.tup [], [B, .cells [.sl 7 1 0 q.length], C, D, E, F, .dead, .arr 1 (rowsOfBytes q) 0]) := by
  subst hq
  exact iso_at rfl rfl rfl (text_spec t bs hb ht) rfl
theorem wNumL (l : List Int) (bs q : List UInt8) (hq : q = bs ++ numsB l) (hl : 0 < l.length ∧ l.length ≤ 100) (hb : bs.length ≤ 1000000) (h : ∀ n ∈ l, natI n) (B : Box) :
    callIso call 19 [.one (.p 0 0), .one (.sl 3 1 0 l.length)] [.cells [.sl 1 1 0 bs.length], .arr 1 (rowsOfBytes bs) 0, B, .arr 1 (l.map encI) 0] = some (.tup [], [.cells [.sl 4 1 0 q.length], .dead, B, .arr 1 (l.map encI) 0, .arr 1 (rowsOfBytes q) 0]) := by
  subst hq
  exact iso_at rfl rfl rfl (numbers_spec l bs hl hb h) rfl
theorem wTxtL (t bs q : List UInt8) (hq : q = bs ++ t) (hb : bs.length ≤ 1000000) (ht : t.length ≤ 1000000) (B C D : Box) :
    callIso call 20 [.one (.p 0 0), vs t] [.cells [.sl 4 1 0 bs.length], B, C, D, .arr 1 (rowsOfBytes bs) 0] = some (.tup [], [.cells [.sl 5 1 0 q.length], B, C, D, .dead, .arr 1 (rowsOfBytes q) 0]) := by
  subst hq
  exact iso_at rfl rfl rfl (text_spec t bs hb ht) rfl
end Go.Proofs.Ytogleebbifpijaa
