import Derived.Test.YtogleebbifpijaaE47
set_option linter.unusedSimpArgs false
set_option linter.unusedVariables false
namespace Go.Proofs.Ytogleebbifpijaa
open Go.Vi
set_option linter.unusedSimpArgs false

def rowsF : Nat → List UInt8 → Nat → List Rec × Nat × Int
  | 0, _, a => ([], a, 0)
  | f + 1, s, a => if s.length ≤ a then ([], a, 0) else
    match nextF s a with
    | (t, n, e) => if e = 0 then (if (getR t).2 = 0 then ((getR t).1 :: (rowsF f s n).1, (rowsF f s n).2) else ([], a, (getR t).2)) else ([], a, e)
theorem rowsF_step {s t : List UInt8} {a n f : Nat} (ha : a < s.length) (h : nextF s a = (t, n, 0)) (hg : (getR t).2 = 0) : rowsF (f + 1) s a = ((getR t).1 :: (rowsF f s n).1, (rowsF f s n).2) := by
  simp only [rowsF]; rw [if_neg (by omega), h]; simp only []; rw [if_pos trivial, if_pos hg]
theorem rowsF_bad {s t : List UInt8} {a n f : Nat} (ha : a < s.length) (h : nextF s a = (t, n, 0)) (hg : (getR t).2 ≠ 0) : rowsF (f + 1) s a = ([], a, (getR t).2) := by
  simp only [rowsF]; rw [if_neg (by omega), h]; simp only []; rw [if_pos trivial, if_neg hg]
theorem rowsF_stop {s t : List UInt8} {a n f : Nat} {e : Int} (ha : a < s.length) (h : nextF s a = (t, n, e)) (he : e ≠ 0) : rowsF (f + 1) s a = ([], a, e) := by
  simp only [rowsF]; rw [if_neg (by omega), h]; simp only []; rw [if_neg he]
theorem rowsF_end {s : List UInt8} {a f : Nat} (ha : s.length ≤ a) : rowsF f s a = ([], a, 0) := by
  cases f with
  | zero => rfl
  | succ f => simp only [rowsF]; rw [if_pos ha]
theorem nextF_tlen (s : List UInt8) (a : Nat) : (nextF s a).1.length ≤ s.length := by
  unfold nextF
  repeat' split
  all_goals (try simp)
  all_goals omega
theorem rowsF_fuel {s : List UInt8} : ∀ (g g' b : Nat), b ≤ s.length → s.length < b + g → s.length < b + g' → rowsF g s b = rowsF g' s b := by
  intro g
  induction g with
  | zero => intro g' b hb h1 h2; omega
  | succ g ih =>
    intro g' b hb h1 h2
    obtain ⟨g2, rfl⟩ : ∃ g2, g' = g2 + 1 := ⟨g' - 1, by omega⟩
    rcases Nat.lt_or_ge b s.length with hbl | hbl
    · obtain ⟨⟨t', n', e'⟩, hx'⟩ : ∃ x, nextF s b = x := ⟨_, rfl⟩
      by_cases he' : e' = 0
      · subst he'
        have hok' := nextF_ok hx'
        by_cases hg : (getR t').2 = 0
        · rw [rowsF_step hbl hx' hg, rowsF_step hbl hx' hg, ih g2 n' hok'.2 (by omega) (by omega)]
        · rw [rowsF_bad hbl hx' hg, rowsF_bad hbl hx' hg]
      · rw [rowsF_stop hbl hx' he', rowsF_stop hbl hx' he']
    · rw [rowsF_end hbl, rowsF_end hbl]
def rowsV (r : List Rec × Nat × Int) : V := .tup [(false, [.d (.l (r.1.map Rec.enc))]), (false, [.d (.i .i64 ((r.2.1 : Nat) : Int))]), (false, [.d (.i .i64 r.2.2)])]

end Go.Proofs.Ytogleebbifpijaa
