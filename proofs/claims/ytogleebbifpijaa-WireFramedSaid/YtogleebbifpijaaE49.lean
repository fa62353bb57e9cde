import Derived.Test.YtogleebbifpijaaE48
set_option linter.unusedSimpArgs false
set_option linter.unusedVariables false
namespace Go.Proofs.Ytogleebbifpijaa
open Go.Vi
set_option linter.unusedSimpArgs false

theorem getR_body {r : Rec} (h : Fit r) : getR (bodyF r) = (r, 0) := by
  have h0 := h.a0; have h1 := h.a1; have h2 := h.t0; have h3 := h.t1
  have ea : ((r.at_.toNat : Nat) : Int) = r.at_ := by omega
  have et : ((r.ti.toNat : Nat) : Int) = r.ti := by omega
  have r1 : rdF (bodyF r) 0 0 = some (r.at_.toNat, nd r.at_.toNat) := by
    unfold bodyF; rw [List.append_assoc]; exact rdF_of0 _ _ (by omega)
  have d1 : (bodyF r).drop (nd r.at_.toNat) = enc128 r.ti.toNat ++ r.da := by
    unfold bodyF nd; rw [List.append_assoc, List.drop_left]
  have r2 : rdF (enc128 r.ti.toNat ++ r.da) 0 0 = some (r.ti.toNat, nd r.ti.toNat) := rdF_of0 _ _ (by omega)
  have d2 : (bodyF r).drop (nd r.at_.toNat + nd r.ti.toNat) = r.da := by
    rw [← List.drop_drop, d1]; unfold nd; rw [List.drop_left]
  have er : (⟨((r.at_.toNat : Nat) : Int), ((r.ti.toNat : Nat) : Int), r.da⟩ : Rec) = r := by rw [ea, et]
  unfold getR
  rw [r1]
  simp only []
  rw [d1, r2]
  simp only []
  rw [d2, er, if_pos (why_fit.2 h)]
theorem rowsF_row : ∀ (l : List Rec) (p : List UInt8) (f : Nat), (∀ r ∈ l, whyF r = 0) → l.length < f → rowsF f (p ++ rowS l) p.length = (l, (p ++ rowS l).length, 0)
  | [], p, f, _, _ => by
    have : rowS [] = [] := rfl
    rw [this, List.append_nil, rowsF_end (Nat.le_refl _)]
  | r :: l, p, f, hw, hf => by
    obtain ⟨g, rfl⟩ : ∃ g, f = g + 1 := ⟨f - 1, by omega⟩
    have w0 := hw r (List.mem_cons_self ..)
    have hfit := why_fit.1 w0
    have hb := hfit.blen
    have e : rowS (r :: l) = frameF (bodyF r) ++ rowS l := rfl
    have hp := frame_pos (bodyF r)
    have hx := nextF_frame p (bodyF r) (rowS l) (by omega) (by omega)
    have hlt : p.length < (p ++ rowS (r :: l)).length := by rw [e]; simp; omega
    have hg := getR_body hfit
    have ih := rowsF_row l (p ++ frameF (bodyF r)) g (fun x hx => hw x (List.mem_cons_of_mem _ hx)) (by simp at hf; omega)
    rw [List.length_append, List.append_assoc] at ih
    rw [← e] at hx ih
    rw [rowsF_step hlt hx (by rw [hg]), hg, ih]
theorem rowE_all : ∀ {l : List Rec}, rowE l = 0 → ∀ r ∈ l, whyF r = 0
  | [], _, r, hr => by cases hr
  | a :: l, h, r, hr => by
    unfold rowE at h
    split at h
    · rcases List.mem_cons.1 hr with rfl | hr
      · assumption
      · exact rowE_all h r hr
    · exact absurd h (by assumption)
theorem fewR_t {l : List Rec} (h : fewR l 30 = true) : l.length ≤ 30 := by
  simp only [fewR, Bool.and_eq_true, decide_eq_true_eq] at h; omega
theorem rowS_le {l : List Rec} (h : ∀ r ∈ l, whyF r = 0) : (rowS l).length ≤ 82 * l.length := by
  induction l with
  | nil => simp [rowS]
  | cons r l ih =>
    have h1 := frameR_le (h r (List.mem_cons_self ..))
    have h2 := ih fun x hx => h x (List.mem_cons_of_mem _ hx)
    have e : rowS (r :: l) = frameR r ++ rowS l := rfl
    rw [e, List.length_append, List.length_cons]; omega
end Go.Proofs.Ytogleebbifpijaa
