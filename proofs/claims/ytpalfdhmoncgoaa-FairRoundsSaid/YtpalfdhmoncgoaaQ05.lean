import Derived.Test.YtpalfdhmoncgoaaQ04
set_option linter.unusedSimpArgs false
set_option linter.unusedVariables false
namespace Go.Proofs.Ytpalfdhmoncgoaa
open Go.Vi
set_option linter.unusedSimpArgs false

/-! ### what a round has -/
theorem iota_count (n j : Nat) : (iota n).countP (fun x => x == (j : Int)) = if j < n then 1 else 0 := by
  induction n with
  | zero => simp [iota]
  | succ n ih =>
    have e : iota (n + 1) = iota n ++ [(n : Int)] := by simp [iota, List.range_succ]
    rw [e, List.countP_append, ih]
    simp only [List.countP_cons, List.countP_nil]
    by_cases h : n = j
    · subst h; simp
    · have : ¬ ((n : Int) = (j : Int)) := by omega
      simp [this]
      split <;> split <;> omega
def isT (j : Nat) (q : Opn) : Bool := q.kind == 5 && q.node == (j : Int)
def isM (j : Nat) (q : Opn) : Bool := q.kind == 6 && q.n == (j : Int)
def isK (q : Opn) : Bool := q.kind == 9
theorem round_counts (nodes : Nat) (ps : List Int) (j : Nat) : (roundF nodes ps).countP (isT j) = (if j < nodes then 1 else 0) ∧ (roundF nodes ps).countP (isM j) = (if j < 2 * nodes - 2 then 1 else 0) ∧ (roundF nodes ps).countP isK = 1 := by
  have p1 := ordF_perm nodes (iota nodes) ps (by simp [iota])
  have p2 := ordF_perm (2 * nodes - 2) (iota (2 * nodes - 2)) (ordF nodes (iota nodes) ps).2 (by simp [iota])
  unfold roundF
  generalize (ordF nodes (iota nodes) ps).1 = A at *
  generalize (ordF (2 * nodes - 2) (iota (2 * nodes - 2)) (ordF nodes (iota nodes) ps).2).1 = B at *
  have c1 := p1.countP_eq (fun x => x == (j : Int))
  have c2 := p2.countP_eq (fun x => x == (j : Int))
  rw [iota_count] at c1 c2
  simp only [List.countP_cons, List.countP_append, List.countP_map]
  refine ⟨?_, ?_, ?_⟩
  · have e1 : A.countP (isT j ∘ turnO) = A.countP (fun x => x == (j : Int)) := by apply List.countP_congr; intro x _; simp [isT, turnO]
    have e2 : B.countP (isT j ∘ moveO) = 0 := by rw [List.countP_eq_zero]; intro x _; simp [isT, moveO]
    rw [e1, e2, c1]; simp [isT]
  · have e1 : A.countP (isM j ∘ turnO) = 0 := by rw [List.countP_eq_zero]; intro x _; simp [isM, turnO]
    have e2 : B.countP (isM j ∘ moveO) = B.countP (fun x => x == (j : Int)) := by apply List.countP_congr; intro x _; simp [isM, moveO]
    rw [e1, e2, c2]; simp [isM]
  · have e1 : A.countP (isK ∘ turnO) = 0 := by rw [List.countP_eq_zero]; intro x _; simp [isK, turnO]
    have e2 : B.countP (isK ∘ moveO) = 0 := by rw [List.countP_eq_zero]; intro x _; simp [isK, moveO]
    rw [e1, e2]; simp [isK]
/-- what is in a round -/
theorem round_mem (nodes : Nat) (hn : nodes ≤ 8) (ps : List Int) : ∀ q ∈ roundF nodes ps, (q.kind = 9) ∨ (q.kind = 5 ∧ ∃ j : Nat, j < 20 ∧ q.node = j) ∨ (q.kind = 6 ∧ ∃ j : Nat, j < 20 ∧ q.n = j) := by
  intro q hq
  have p1 := ordF_perm nodes (iota nodes) ps (by simp [iota])
  have p2 := ordF_perm (2 * nodes - 2) (iota (2 * nodes - 2)) (ordF nodes (iota nodes) ps).2 (by simp [iota])
  unfold roundF at hq
  simp only [List.mem_cons, List.mem_append, List.mem_map] at hq
  rcases hq with rfl | ⟨x, hx, rfl⟩ | ⟨x, hx, rfl⟩
  · left; rfl
  · right; left
    have := p1.mem_iff.1 hx
    simp only [iota, List.mem_map, List.mem_range] at this
    obtain ⟨j, hj, rfl⟩ := this
    exact ⟨rfl, j, by omega, rfl⟩
  · right; right
    have := p2.mem_iff.1 hx
    simp only [iota, List.mem_map, List.mem_range] at this
    obtain ⟨j, hj, rfl⟩ := this
    exact ⟨rfl, j, by omega, rfl⟩
theorem round_len (nodes : Nat) (ps : List Int) : (roundF nodes ps).length = 1 + nodes + (2 * nodes - 2) := by
  have l1 := (ordF_perm nodes (iota nodes) ps (by simp [iota])).length_eq
  have l2 := (ordF_perm (2 * nodes - 2) (iota (2 * nodes - 2)) (ordF nodes (iota nodes) ps).2 (by simp [iota])).length_eq
  simp only [iota, List.length_map, List.length_range] at l1 l2
  unfold roundF
  simp only [List.length_cons, List.length_append, List.length_map, iota, l1, l2]
  omega

/-! ### counters -/
def TL (c : Nat → Int) : List L := (List.range 20).map fun j => .d (.i .i64 (c j))
theorem TL_len (c : Nat → Int) : (TL c).length = 20 := by simp [TL]
theorem TL_get (c : Nat → Int) (n : Nat) (h : n < 20) : (TL c)[n]? = some (.d (.i .i64 (c n))) := by simp [TL, h]
theorem TL_set (c : Nat → Int) (n : Nat) (x : Int) (h : n < 20) : (TL c).take n ++ [L.d (.i .i64 x)] ++ (TL c).drop (n + 1) = TL (fun j => if j = n then x else c j) := by
  rw [List.append_assoc, List.singleton_append]
  apply List.ext_getElem?
  intro j
  have hl : ((TL c).take n).length = n := by rw [List.length_take, TL_len]; omega
  by_cases hj : j < 20
  · rw [TL_get _ _ hj]
    rcases Nat.lt_trichotomy j n with h1 | h1 | h1
    · rw [List.getElem?_append_left (by omega), List.getElem?_take, if_pos h1, TL_get _ _ hj, if_neg (by omega)]
    · subst h1
      rw [List.getElem?_append_right (by omega), hl, Nat.sub_self, if_pos rfl]; rfl
    · rw [List.getElem?_append_right (by omega), hl, if_neg (by omega)]
      obtain ⟨m, hm⟩ : ∃ m, j - n = m + 1 := ⟨j - n - 1, by omega⟩
      rw [hm, List.getElem?_cons_succ, List.getElem?_drop, show n + 1 + m = j by omega, TL_get _ _ hj]
  · rw [List.getElem?_eq_none (by simp [TL]; omega), List.getElem?_eq_none (by simp [TL]; omega)]
theorem TL_zero : (List.replicate 20 (L.d (.i .i64 0))) = TL (fun _ => 0) := by rfl
end Go.Proofs.Ytpalfdhmoncgoaa
