import Derived.Test.YthijgiinafanfaaS59
set_option linter.unusedSimpArgs false
set_option linter.unusedVariables false
namespace Go.Proofs.Ythijgiinafanfaa
open Go.Vi
set_option linter.unusedSimpArgs false

def numB (b : Int) (l : List Rec) : Prop := ∀ k (h : k < l.length), l[k].at_ = b + k
theorem numB_cons {b : Int} {r : Rec} {l : List Rec} (h : numB b (r :: l)) : r.at_ = b ∧ numB (b + 1) l := by
  constructor
  · have := h 0 (by simp); simpa using this
  · intro k hk
    have := h (k + 1) (by simpa using hk)
    simp only [List.getElem_cons_succ] at this
    rw [this]; omega
theorem numB_take {b : Int} {l : List Rec} (w : Nat) (h : numB b l) : numB b (l.take w) := by
  intro k hk
  rw [List.getElem_take]
  exact h k _
theorem rowS_cons (r : Rec) (l : List Rec) : rowS (r :: l) = frameF (bodyF r) ++ rowS l := rfl
theorem placesF_row : ∀ (l : List Rec) (p q : List UInt8) (f : Nat) (b : Int), (∀ r ∈ l, whyF r = 0) → numB b l → l.length ≤ f →
    (placesF f (p ++ (rowS l ++ q)) p.length b).1.map (·.1) = l ++ (placesF (f - l.length) (p ++ (rowS l ++ q)) (p ++ rowS l).length (b + l.length)).1.map (·.1) ∧
    (placesF f (p ++ (rowS l ++ q)) p.length b).2 = (placesF (f - l.length) (p ++ (rowS l ++ q)) (p ++ rowS l).length (b + l.length)).2 := by
  intro l
  induction l with
  | nil =>
    intro p q f b _ _ _
    have : rowS [] = [] := rfl
    simp [this]
  | cons r l ih =>
    intro p q f b hw hn hf
    obtain ⟨g, rfl⟩ : ∃ g, f = g + 1 := ⟨f - 1, by simp at hf; omega⟩
    have w0 := hw r (List.mem_cons_self ..)
    have hfit := why_fit.1 w0
    have hb := hfit.blen
    have hp := frame_pos (bodyF r)
    have hx := nextF_frame p (bodyF r) (rowS l ++ q) (by omega) (by omega)
    have hg := getR_body hfit
    have hnn := numB_cons hn
    have e0 : p ++ (rowS (r :: l) ++ q) = p ++ (frameF (bodyF r) ++ (rowS l ++ q)) := by rw [rowS_cons]; simp
    have e1 : p ++ (frameF (bodyF r) ++ (rowS l ++ q)) = (p ++ frameF (bodyF r)) ++ (rowS l ++ q) := by simp
    have e2 : (p ++ frameF (bodyF r)) ++ rowS l = p ++ rowS (r :: l) := by rw [rowS_cons]; simp
    have hlt : p.length < (p ++ (frameF (bodyF r) ++ (rowS l ++ q))).length := by simp; omega
    have := ih (p ++ frameF (bodyF r)) q g (b + 1) (fun x hx => hw x (List.mem_cons_of_mem _ hx)) hnn.2 (by simp at hf; omega)
    have hlen : (p ++ frameF (bodyF r)).length = p.length + (frameF (bodyF r)).length := List.length_append
    rw [← e1, e2, hlen] at this
    rw [e0, placesF_step hlt hx (by rw [hg]) (by rw [hg]; exact hnn.1), hg]
    have e3 : g + 1 - (r :: l).length = g - l.length := by simp
    have e4 : b + ((r :: l).length : Int) = b + 1 + (l.length : Int) := by simp; omega
    rw [e3, e4]
    exact ⟨by simp only [List.map_cons, this.1, List.cons_append], this.2⟩
theorem row_ge' : ∀ l : List Rec, l.length ≤ (rowS l).length
  | [] => by simp
  | r :: l => by
    have := row_ge' l
    have hp := frame_pos (bodyF r)
    rw [rowS_cons, List.length_append, List.length_cons]; omega
def endR (l : List Rec) (k : Nat) : Nat := (rowS (l.take k)).length
theorem scan_row (l : List Rec) (b : Int) (hb : offN b = true) (hw : ∀ r ∈ l, whyF r = 0) (hn : numB b l) : (scanS (rowS l) b).1.map (·.1) = l ∧ (scanS (rowS l) b).2 = ((rowS l).length, 0) := by
  have hge := row_ge' l
  have h := placesF_row l [] [] ((rowS l).length + 1) b hw hn (by omega)
  simp only [List.nil_append, List.append_nil, List.length_nil] at h
  rw [placesF_end (f := (rowS l).length + 1 - l.length) (Nat.le_refl _)] at h
  unfold scanS
  rw [if_pos hb]
  exact ⟨by simpa using h.1, h.2⟩
theorem scan_cut (l : List Rec) (b : Int) (hb : offN b = true) (hw : ∀ r ∈ l, whyF r = 0) (hn : numB b l) (w n : Nat) (hwl : w ≤ l.length) (h1 : endR l w ≤ n) (h2 : w = l.length → n ≤ endR l w) (h3 : w < l.length → n < endR l (w + 1)) :
    (scanS ((rowS l).take n) b).1.map (·.1) = l.take w ∧ (scanS ((rowS l).take n) b).2 = (endR l w, if endR l w = n then 0 else 2) := by
  have hw' : ∀ r ∈ l.take w, whyF r = 0 := fun r hr => hw r (List.mem_of_mem_take hr)
  have hge := row_ge' (l.take w)
  have hlw : (l.take w).length = w := by simp; omega
  obtain ⟨q, hq, hcase⟩ : ∃ q, (rowS l).take n = rowS (l.take w) ++ q ∧ ((q = [] ∧ endR l w = n) ∨ (∃ (h : w < l.length) (m : Nat), q = (frameF (bodyF l[w])).take m ∧ 0 < m ∧ m < (frameF (bodyF l[w])).length ∧ endR l w + m = n)) := by
    rcases Nat.lt_or_ge w l.length with h | h
    · have hes : endR l (w + 1) = endR l w + (frameF (bodyF l[w])).length := by
        unfold endR; rw [rowS_succ l w h, List.length_append]; rfl
      have hlt := h3 h
      have hsp : rowS l = rowS (l.take w) ++ (frameF (bodyF l[w]) ++ rowS (l.drop (w + 1))) := by
        conv => lhs; rw [← List.take_append_drop w l, List.drop_eq_getElem_cons h]
        simp only [rowS, List.flatMap_append, List.flatMap_cons]; rfl
      have hx : (rowS l).take n = rowS (l.take w) ++ (frameF (bodyF l[w])).take (n - endR l w) := by
        rw [hsp, List.take_append, List.take_of_length_le h1]
        congr 1
        exact List.take_append_of_le_length (by unfold endR at *; omega)
      by_cases he : endR l w = n
      · refine ⟨[], ?_, .inl ⟨rfl, he⟩⟩
        rw [hx, he, Nat.sub_self]; simp
      · exact ⟨_, hx, .inr ⟨h, n - endR l w, rfl, by omega, by omega, by omega⟩⟩
    · have hwe : w = l.length := by omega
      have := h2 hwe
      refine ⟨[], ?_, .inl ⟨rfl, by omega⟩⟩
      rw [hwe, List.take_of_length_le (Nat.le_refl _), List.append_nil]
      refine List.take_of_length_le ?_
      have e : endR l l.length = (rowS l).length := by unfold endR; rw [List.take_of_length_le (Nat.le_refl _)]
      rw [hwe, e] at h1
      exact h1
  have har := placesF_row (l.take w) [] q ((rowS (l.take w) ++ q).length + 1) b hw' (numB_take w hn) (by simp; simp at hge; omega)
  simp only [List.nil_append, List.length_nil] at har
  unfold scanS
  rw [if_pos hb, hq]
  rcases hcase with ⟨hqe, he⟩ | ⟨h, m, hqe, hm0, hm1, he⟩
  · subst hqe
    have z := placesF_end (s := rowS (l.take w) ++ []) (a := (rowS (l.take w)).length) (f := (rowS (l.take w) ++ []).length + 1 - (l.take w).length) (b := b + ((l.take w).length : Int)) (by simp)
    rw [z] at har
    rw [if_pos he]
    exact ⟨by simpa using har.1, har.2⟩
  · have hbl := (why_fit.1 (hw l[w] (List.getElem_mem h))).blen
    have hc := nextF_cut (rowS (l.take w)) (bodyF l[w]) m (by omega) (by omega) hm0 hm1
    rw [← hqe] at hc
    have hql : q.length = m := by rw [hqe]; simp; omega
    obtain ⟨f, hf⟩ : ∃ f, (rowS (l.take w) ++ q).length + 1 - (l.take w).length = f + 1 := ⟨(rowS (l.take w) ++ q).length - (l.take w).length, by simp; simp at hge; omega⟩
    rw [hf, placesF_stop (by rw [List.length_append]; omega) hc (by decide)] at har
    rw [if_neg (by omega)]
    exact ⟨by simpa using har.1, har.2⟩
def recsF (b : Int) (ds : List (List UInt8)) : List Rec := ds.mapIdx fun i d => ⟨b + i, i, d⟩
theorem recsF_len (b : Int) (ds : List (List UInt8)) : (recsF b ds).length = ds.length := by simp [recsF]
theorem recsF_get (b : Int) (ds : List (List UInt8)) (k : Nat) (h : k < (recsF b ds).length) : (recsF b ds)[k] = ⟨b + k, k, ds[k]'(by simpa [recsF] using h)⟩ := by simp [recsF]
theorem recsF_num (b : Int) (ds : List (List UInt8)) : numB b (recsF b ds) := by
  intro k h; rw [recsF_get]
end Go.Proofs.Ythijgiinafanfaa
