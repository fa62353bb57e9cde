import Derived.Test.YtoehimghaanjfaaK08
set_option linter.unusedSimpArgs false
set_option linter.unusedVariables false
namespace Go.Proofs.Ytoehimghaanjfaa
open Go.Vi
set_option linter.unusedSimpArgs false

structure St19 where
  i : Nat
  t : Nat
  r : Nat
  q : List Alarm
structure Ok19 (n : Nat) (len : Nat) (s : St19) : Prop where
  i : s.i ≤ len + 30
  t : s.t ≤ s.i
  i2 : s.i ≤ len + s.t
  len : s.q.length ≤ s.i + 1
  srt : Srt s.q
  uni : Uniq s.q
  h0 : (s.t < n ∧ (⟨0, n⟩ : Alarm) ∈ s.q ∧ s.r = 0) ∨ (n ≤ s.t ∧ (∀ a ∈ s.q, a.id ≠ 0) ∧ s.r = 1)

theorem uniq_eq {q : List Alarm} (h : Uniq q) {a b : Alarm} (ha : a ∈ q) (hb : b ∈ q) (e : a.id = b.id) : a = b := by
  induction q with
  | nil => cases ha
  | cons x r ih =>
    obtain ⟨h1, h2⟩ := List.pairwise_cons.1 h
    rcases List.mem_cons.1 ha with e1 | ha'
    · rcases List.mem_cons.1 hb with e2 | hb'
      · rw [e1, e2]
      · rw [e1] at e; exact absurd e (h1 b hb')
    · rcases List.mem_cons.1 hb with e2 | hb'
      · rw [e2] at e; exact absurd e.symm (h1 a ha')
      · exact ih h2 ha' hb'
theorem cnt_none {B : List Alarm} (h : ∀ a ∈ B, a.id ≠ 0) : (B.filter (isId 0)).length = 0 := by
  rw [List.length_eq_zero_iff, List.filter_eq_nil_iff]
  intro a ha
  have := h a ha
  simpa [isId] using this
theorem cnt_one {B : List Alarm} (hu : Uniq B) {a : Alarm} (ha : a ∈ B) (h0 : a.id = 0) : (B.filter (isId 0)).length = 1 := by
  induction B with
  | nil => cases ha
  | cons x r ih =>
    obtain ⟨h1, h2⟩ := List.pairwise_cons.1 hu
    rcases List.mem_cons.1 ha with rfl | ha
    · have : isId 0 a = true := by simp [isId, h0]
      rw [List.filter_cons, if_pos this, List.length_cons, cnt_none fun b hb => ?_]
      have := h1 b hb
      omega
    · have hx : x.id ≠ 0 := by have := h1 a ha; omega
      have : isId 0 x = false := by simpa [isId] using hx
      rw [List.filter_cons, this]
      exact ih h2 ha
theorem any_zero {n : Nat} {len : Nat} {s : St19} (h : Ok19 n len s) : s.q.any (isId 0) = decide (s.t < n) := by
  rcases h.h0 with ⟨h1, h2, _⟩ | ⟨h1, h2, _⟩
  · rw [decide_eq_true h1, List.any_eq_true]
    exact ⟨_, h2, by simp [isId]⟩
  · rw [decide_eq_false (by omega), List.any_eq_false]
    intro a ha
    have := h2 a ha
    simpa [isId] using this
/-- what a tick leaves -/
theorem ok_tick {n len : Nat} {s : St19} (h : Ok19 n len s) (hi : s.i < len + 30) : Ok19 n len ⟨s.i + 1, s.t + 1, s.r + ((s.q.filter (due ((s.t : Int) + 1))).filter (isId 0)).length, s.q.filter fun a => !due ((s.t : Int) + 1) a⟩ ∧ ∀ b ∈ s.q.filter (due ((s.t : Int) + 1)), b.id = 0 → s.t + 1 = n := by
  obtain ⟨h1, h2, h3, h4, h5, h6, h7⟩ := h
  have hlen := List.length_filter_le (fun a => !due ((s.t : Int) + 1) a) s.q
  have hz : ∀ b ∈ s.q.filter (due ((s.t : Int) + 1)), b.id = 0 → s.t + 1 = n := by
    intro b hb hb0
    rw [List.mem_filter] at hb
    rcases h7 with ⟨c1, c2, _⟩ | ⟨c1, c2, _⟩
    · have e := uniq_eq h6 hb.1 c2 hb0
      subst e
      have := hb.2
      simp only [due, decide_eq_true_eq] at this
      omega
    · exact absurd hb0 (c2 b hb.1)
  refine ⟨⟨by simp only; omega, by simp only; omega, by simp only; omega, by simp only; omega, filter_srt h5, filter_uniq h6, ?_⟩, hz⟩
  rcases h7 with ⟨c1, c2, c3⟩ | ⟨c1, c2, c3⟩
  · rcases Nat.lt_or_ge (s.t + 1) n with h | h
    · left
      refine ⟨h, ?_, ?_⟩
      · rw [List.mem_filter]; refine ⟨c2, ?_⟩
        simp only [due, Bool.not_eq_true', decide_eq_false_iff_not]; omega
      · simp only
        rw [c3, cnt_none]
        intro b hb hb0
        have := hz b hb hb0
        omega
    · right
      refine ⟨h, fun a ha ha0 => ?_, ?_⟩
      · rw [List.mem_filter] at ha
        have e := uniq_eq h6 ha.1 c2 ha0
        subst e
        have := ha.2
        simp only [due, Bool.not_eq_true', decide_eq_false_iff_not] at this
        omega
      · simp only
        rw [c3, cnt_one (filter_uniq h6) (a := ⟨0, n⟩) ?_ rfl]
        rw [List.mem_filter]; refine ⟨c2, ?_⟩
        simp only [due, decide_eq_true_eq]; omega
  · right
    refine ⟨by simp only; omega, fun a ha => c2 a (List.mem_filter.1 ha).1, ?_⟩
    simp only
    rw [c3, cnt_none]
    intro b hb
    exact c2 b (List.mem_filter.1 hb).1
theorem ok_arm {n len : Nat} {s : St19} (h : Ok19 n len s) (hi : s.i < len) {a : Alarm} (ha : a.id ≠ 0) : Ok19 n len ⟨s.i + 1, s.t, s.r, insF a (cutF a.id s.q)⟩ := by
  obtain ⟨h1, h2, h3, h4, h5, h6, h7⟩ := h
  have hc := cut_len (id := a.id) (q := s.q)
  refine ⟨by simp only; omega, by simp only; omega, by simp only; omega, by simp only [ins_len]; omega, ins_srt (cut_srt h5) cut_ids, ins_uniq (cut_uniq h6) cut_ids, ?_⟩
  rcases h7 with ⟨c1, c2, c3⟩ | ⟨c1, c2, c3⟩
  · left
    refine ⟨c1, ?_, c3⟩
    rw [ins_mem]; right
    simp only [cutF, List.mem_filter, isId, Bool.not_eq_true', beq_eq_false_iff_ne]
    exact ⟨c2, fun e => ha e.symm⟩
  · right
    refine ⟨c1, fun b hb => ?_, c3⟩
    rw [ins_mem] at hb
    rcases hb with rfl | hb
    · exact ha
    · exact c2 b (List.mem_filter.1 hb).1
theorem ok_cut {n len : Nat} {s : St19} (h : Ok19 n len s) (hi : s.i < len) {id : Int} (ha : id ≠ 0) : Ok19 n len ⟨s.i + 1, s.t, s.r, cutF id s.q⟩ := by
  obtain ⟨h1, h2, h3, h4, h5, h6, h7⟩ := h
  have hc := cut_len (id := id) (q := s.q)
  refine ⟨by simp only; omega, by simp only; omega, by simp only; omega, by simp only; omega, cut_srt h5, cut_uniq h6, ?_⟩
  rcases h7 with ⟨c1, c2, c3⟩ | ⟨c1, c2, c3⟩
  · left
    refine ⟨c1, ?_, c3⟩
    simp only [cutF, List.mem_filter, isId, Bool.not_eq_true', beq_eq_false_iff_ne]
    exact ⟨c2, fun e => ha e.symm⟩
  · right
    exact ⟨c1, fun b hb => c2 b (List.mem_filter.1 hb).1, c3⟩
end Go.Proofs.Ytoehimghaanjfaa
