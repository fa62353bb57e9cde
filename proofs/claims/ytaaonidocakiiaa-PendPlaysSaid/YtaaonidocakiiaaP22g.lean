import Derived.Test.YtaaonidocakiiaaP22e
set_option linter.unusedSimpArgs false
set_option linter.unusedVariables false
namespace Go.Proofs.Ytaaonidocakiiaa
open Go.Vi
set_option linter.unusedSimpArgs false

/-! queues, as those that are written and those that aren't -/
structure GoodQ (w o : List Entry) (ticket at_ last : Int) : Prop where
  pw : w.Pairwise (fun a b => a.at_ < b.at_)
  wa : ∀ e ∈ w, 0 ≤ e.at_ ∧ e.at_ < at_
  oa : ∀ e ∈ o, e.at_ = -1
  pt : (w ++ o).Pairwise (fun a b => a.ticket < b.ticket)
  tk : ∀ e ∈ w ++ o, last < e.ticket ∧ e.ticket < ticket
  at0 : 0 ≤ at_
  lt : last < ticket

theorem right_open : ∀ (o : List Entry) (last : Int), (∀ e ∈ o, e.at_ = -1) → rightF o last true = true
  | [], _, _ => rfl
  | e :: r, last, h => by
    have he := h e (List.mem_cons_self ..)
    simp only [rightF, he]
    rw [if_neg (by omega), if_pos (by omega)]
    exact right_open r last fun x hx => h x (List.mem_cons_of_mem _ hx)
theorem right_ok : ∀ (w o : List Entry) (last : Int), w.Pairwise (fun a b => a.at_ < b.at_) → (∀ e ∈ w, 0 ≤ e.at_ ∧ last < e.at_) → (∀ e ∈ o, e.at_ = -1) → rightF (w ++ o) last false = true
  | [], [], _, _, _, _ => rfl
  | [], e :: r, last, _, _, h => by
    have he := h e (List.mem_cons_self ..)
    simp only [List.nil_append, rightF, he]
    rw [if_neg (by omega), if_pos (by omega)]
    exact right_open r last fun x hx => h x (List.mem_cons_of_mem _ hx)
  | e :: w, o, last, hp, hw, h => by
    obtain ⟨h1, h2⟩ := hw e (List.mem_cons_self ..)
    simp only [List.cons_append, rightF]
    rw [if_neg (by simp; omega), if_neg (by omega)]
    rw [List.pairwise_cons] at hp
    exact right_ok w o e.at_ hp.2 (fun x hx => ⟨(hw x (List.mem_cons_of_mem _ hx)).1, hp.1 x hx⟩) h
theorem GoodQ.right {w o : List Entry} {t a l : Int} (h : GoodQ w o t a l) : rightF (w ++ o) (-1) false = true :=
  right_ok w o (-1) h.pw (fun e he => ⟨(h.wa e he).1, by have := (h.wa e he).1; omega⟩) h.oa
theorem GoodQ.first {w o : List Entry} {t a l : Int} (h : GoodQ w o t a l) : firstF (w ++ o) = if o = [] then -1 else (w.length : Int) := by
  have key : ∀ w : List Entry, (∀ e ∈ w, 0 ≤ e.at_) → (w ++ o).findIdx? (fun e => decide (e.at_ < 0)) = if o = [] then none else some w.length := by
    intro w
    induction w with
    | nil =>
      intro _
      cases ho : o with
      | nil => rfl
      | cons e r =>
        have := h.oa e (by rw [ho]; exact List.mem_cons_self ..)
        simp [List.findIdx?_cons, this]
    | cons e w ih =>
      intro hw
      have h1 := hw e (List.mem_cons_self ..)
      have h2 := ih fun x hx => hw x (List.mem_cons_of_mem _ hx)
      simp only [List.cons_append, List.findIdx?_cons, h2]
      have : decide (e.at_ < 0) = false := by simp; omega
      rw [this]
      by_cases ho : o = [] <;> simp [ho]
  unfold firstF idxF
  rw [List.drop_zero, key w fun e he => (h.wa e he).1]
  by_cases ho : o = [] <;> simp [ho]
theorem GoodQ.rel {w o : List Entry} {t a l : Int} (h : GoodQ w o t a l) (acked : Int) : ∃ x y : List Entry, w = x ++ y ∧ relN acked (w ++ o) 0 = x.length := by
  refine ⟨w.takeWhile (freed acked), w.dropWhile (freed acked), List.takeWhile_append_dropWhile.symm, ?_⟩
  have ho : o.takeWhile (freed acked) = [] := by
    cases hx : o with
    | nil => rfl
    | cons e r =>
      have := h.oa e (by rw [hx]; exact List.mem_cons_self ..)
      simp [List.takeWhile_cons, freed, this]
  simp only [relN, List.drop_zero, Nat.zero_add]
  rw [List.takeWhile_append]
  split
  · rename_i hh; rw [ho]; simp [hh]
  · rfl

theorem GoodQ.add {w o : List Entry} {t a l : Int} (h : GoodQ w o t a l) (d : List UInt8) : GoodQ w (o ++ [⟨t, d, -1⟩]) (t + 1) a l := by
  refine ⟨h.pw, h.wa, fun e he => ?_, ?_, fun e he => ?_, h.at0, by have := h.lt; omega⟩
  · rcases List.mem_append.1 he with he | he
    · exact h.oa e he
    · simp at he; subst he; rfl
  · rw [← List.append_assoc, List.pairwise_append]
    refine ⟨h.pt, by simp, fun x hx y hy => ?_⟩
    simp at hy; subst hy
    exact (h.tk x hx).2
  · rw [← List.append_assoc, List.mem_append] at he
    rcases he with he | he
    · have := h.tk e he; omega
    · simp at he; subst he; exact ⟨h.lt, by simp only []; omega⟩
theorem GoodQ.write {w o : List Entry} {e : Entry} {t a l : Int} (h : GoodQ w (e :: o) t a l) : GoodQ (w ++ [{ e with at_ := a }]) o t (a + 1) l := by
  have hpt := h.pt
  have h0 := h.at0
  refine ⟨?_, fun x hx => ?_, fun x hx => h.oa x (List.mem_cons_of_mem _ hx), ?_, fun x hx => ?_, by omega, h.lt⟩
  · rw [List.pairwise_append]
    refine ⟨h.pw, by simp, fun x hx y hy => ?_⟩
    simp at hy; subst hy
    exact (h.wa x hx).2
  · rcases List.mem_append.1 hx with hx | hx
    · have := h.wa x hx; omega
    · simp at hx; subst hx; simp only []; omega
  · rw [List.append_assoc]
    have e1 : (w ++ ([({ e with at_ := a } : Entry)] ++ o)).map Entry.ticket = (w ++ e :: o).map Entry.ticket := by simp
    have p1 : ((w ++ e :: o).map Entry.ticket).Pairwise (· < ·) := by rw [List.pairwise_map]; exact hpt
    rw [← e1, List.pairwise_map] at p1
    exact p1
  · have : ∃ y ∈ w ++ e :: o, y.ticket = x.ticket := by
      simp only [List.mem_append, List.mem_cons, List.mem_singleton, List.not_mem_nil, or_false] at hx
      rcases hx with (hx | hx) | hx
      · exact ⟨x, by simp [hx], rfl⟩
      · subst hx; exact ⟨e, by simp, rfl⟩
      · exact ⟨x, by simp [hx], rfl⟩
    obtain ⟨y, hy, hyx⟩ := this
    rw [← hyx]
    exact h.tk y hy
theorem GoodQ.drop {w o : List Entry} {e : Entry} {t a l : Int} (h : GoodQ w (e :: o) t a l) : GoodQ w o t a l := by
  refine ⟨h.pw, h.wa, fun x hx => h.oa x (List.mem_cons_of_mem _ hx), ?_, fun x hx => h.tk x ?_, h.at0, h.lt⟩
  · exact h.pt.sublist (List.Sublist.append_left (List.sublist_cons_self ..) _)
  · simp only [List.mem_append, List.mem_cons] at hx ⊢
    rcases hx with hx | hx
    · exact .inl hx
    · exact .inr (.inr hx)
theorem GoodQ.release {x y o : List Entry} {t a l : Int} (h : GoodQ (x ++ y) o t a l) : GoodQ y o t a (match x.getLast? with | some e => e.ticket | none => l) := by
  have hpt := h.pt
  rw [List.append_assoc, List.pairwise_append] at hpt
  have hpw := h.pw
  rw [List.pairwise_append] at hpw
  refine ⟨hpw.2.1, fun e he => h.wa e (List.mem_append_right _ he), h.oa, hpt.2.1, fun e he => ⟨?_, (h.tk e (by rw [List.append_assoc]; exact List.mem_append_right _ he)).2⟩, h.at0, ?_⟩
  · cases hx : x.getLast? with
    | none => exact (h.tk e (by rw [List.append_assoc]; exact List.mem_append_right _ he)).1
    | some z => exact hpt.2.2 z (List.mem_of_getLast? hx) e he
  · cases hx : x.getLast? with
    | none => exact h.lt
    | some z => exact (h.tk z (by rw [List.append_assoc]; exact List.mem_append_left _ (List.mem_of_getLast? hx))).2

def encU (a : Int) : List D := [.i .u8 a]
theorem encU_len (a : Int) : (encU a).length = 1 := Eq.trans rfl rfl
theorem encU_at (a : Int) : (encU a)[0]? = some (.i .u8 a) := Eq.trans rfl rfl
theorem tmod_pos {a b : Int} (h : 0 ≤ a) : a.tmod b = a % b := Int.tmod_eq_emod_of_nonneg h
theorem tdiv_pos {a b : Int} (h : 0 ≤ a) : a.tdiv b = a / b := Int.tdiv_eq_ediv_of_nonneg h

structure PS where
  w : List Entry
  o : List Entry
  ticket : Int
  at_ : Int
  rel : Int
  drp : Int
  last : Int
  i : Nat
structure PSok (n : Int) (acts : List Int) (s : PS) : Prop where
  g : GoodQ s.w s.o s.ticket s.at_ s.last
  le : ((s.w ++ s.o).length : Int) ≤ n
  sum : ((s.w ++ s.o).length : Int) + s.rel + s.drp = s.ticket
  hi : s.i ≤ acts.length
  b1 : 0 ≤ s.rel
  b2 : 0 ≤ s.drp
  b3 : s.ticket ≤ s.i
  b4 : s.at_ ≤ s.i
end Go.Proofs.Ytaaonidocakiiaa
