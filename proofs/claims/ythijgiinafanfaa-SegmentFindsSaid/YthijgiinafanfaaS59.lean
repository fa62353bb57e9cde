import Derived.Test.YthijgiinafanfaaS58
set_option linter.unusedSimpArgs false
set_option linter.unusedVariables false
namespace Go.Proofs.Ythijgiinafanfaa
open Go.Vi
set_option linter.unusedSimpArgs false

theorem indexM_filter (l : List (Rec × Nat)) (b e : Int) : indexM l b e = (l.filter fun x => decide ((x.1.at_ - b).tmod e = 0)).map fun x => (x.1.at_, (x.2 : Int)) := by
  have key : ∀ (l : List (Rec × Nat)) (o : List Mk), l.foldl (fun o x => addM o b e (x.1.at_, x.2)) o = o ++ (l.filter fun x => decide ((x.1.at_ - b).tmod e = 0)).map fun x => (x.1.at_, (x.2 : Int)) := by
    intro l
    induction l with
    | nil => intro o; simp
    | cons x l ih =>
      intro o
      rw [List.foldl_cons, ih]
      unfold addM
      by_cases c : (x.1.at_ - b).tmod e = 0
      · rw [List.filter_cons_of_pos (by simpa using c)]; simp [c]
      · rw [List.filter_cons_of_neg (by simpa using c)]; simp [c]
  unfold indexM
  rw [key]; simp
theorem findV_none {l : List Mk} {off : Int} (h : cntM l off = 0) : findV l off = .tup [(true, [.d (.i .i64 0), .d (.i .i64 0)]), (false, [.d (.b false)])] := by
  unfold findV; rw [h]; split <;> simp
theorem findV_some {l : List Mk} {off : Int} (h : 0 < cntM l off) (hk : cntM l off - 1 < l.length) : findV l off = .tup [(true, [.d (.i .i64 l[cntM l off - 1].1), .d (.i .i64 l[cntM l off - 1].2)]), (false, [.d (.b true)])] := by
  unfold findV
  rw [List.getElem?_eq_getElem hk]
  simp only
  rw [if_neg (by omega)]; rfl
theorem find_map_none {l : List (Rec × Nat)} {off : Int} (h : ∀ x ∈ l, x.1.at_ ≠ off) : (l.map (·.1)).find? (fun r => decide (r.at_ = off)) = none := by
  rw [List.find?_eq_none]
  intro r hr
  obtain ⟨x, hx, rfl⟩ := List.mem_map.1 hr
  simpa using h x hx
theorem readIdx_spec (s : List UInt8) (hs : s.length ≤ 1000000) (b e off : Int) (hev : 1 ≤ e ∧ e ≤ 256) :
    call 14 [vs s, vi b, vl ((indexS s b e).map mkE), vi off] [] = some (readL ((scanS s b).1.map (·.1)) off, []) := by
  have hil : (indexS s b e).length ≤ 1000000 := by
    have h1 := indexM_len b e (scanS s b).1
    have h2 := scanS_len s b
    unfold indexS; omega
  cases ho : offN b with
  | false =>
    have e1 : scanS s b = ([], 0, 1) := by simp [scanS, ho]
    have e2 : indexS s b e = [] := by unfold indexS; rw [e1]; rfl
    have hf := find_spec [] (by simp) List.Pairwise.nil off
    rw [findV_none (by simp [cntM])] at hf
    rw [e2, e1]
    exact segRead_none s b off [] hf
  | true =>
    have hb2 : 0 ≤ b ∧ b ≤ 1099511627776 := by simpa [offN] using ho
    have e1 : scanS s b = placesF (s.length + 1) s 0 b := by simp [scanS, ho]
    obtain ⟨pl, hpl⟩ : ∃ pl, pl = (placesF (s.length + 1) s 0 b).1 := ⟨_, rfl⟩
    have hget : ∀ k (h : k < pl.length), pl[k].1.at_ = b + k ∧ pl[k].2 < s.length ∧ (placesF (s.length + 1 - pl[k].2) s pl[k].2 (b + k)).1 = pl.drop k := by
      subst hpl
      intro k h
      exact placesF_get (s.length + 1) 0 b k h (Nat.zero_le _) (by omega)
    have hpll : pl.length ≤ s.length := by have := scanS_len s b; rw [e1, ← hpl] at this; exact this
    have hpw : pl.Pairwise (fun x y => x.1.at_ < y.1.at_) := by
      rw [List.pairwise_iff_getElem]
      intro i j hi hj hij
      rw [(hget i hi).1, (hget j hj).1]; omega
    obtain ⟨ms, hms⟩ : ∃ ms, ms = indexS s b e := ⟨_, rfl⟩
    have hmf : ms = (pl.filter fun x => decide ((x.1.at_ - b).tmod e = 0)).map fun x => (x.1.at_, (x.2 : Int)) := by
      rw [hms]; unfold indexS; rw [e1, ← hpl, indexM_filter]
    have hmp : ms.Pairwise (fun a b => a.1 < b.1) := by
      rw [hmf, List.pairwise_map]
      exact hpw.filter _
    have hmem : ∀ m ∈ ms, ∃ k, ∃ h : k < pl.length, m = (pl[k].1.at_, (pl[k].2 : Int)) := by
      intro m hm
      rw [hmf] at hm
      obtain ⟨x, hx, rfl⟩ := List.mem_map.1 hm
      obtain ⟨k, hk, rfl⟩ := List.getElem_of_mem ((List.mem_filter.1 hx).1)
      exact ⟨k, hk, rfl⟩
    rw [← hms] at hil ⊢
    rw [e1, ← hpl]
    have hf := find_spec ms hil hmp off
    rcases Nat.eq_zero_or_pos (cntM ms off) with c | c
    · rw [findV_none c] at hf
      have hn : ∀ x ∈ pl, x.1.at_ ≠ off := by
        intro x hx hxo
        obtain ⟨k, hk, rfl⟩ := List.getElem_of_mem hx
        have h0 : 0 < pl.length := by omega
        have g0 := (hget 0 h0).1
        have gk := (hget k hk).1
        have hin : (pl[0].1.at_, (pl[0].2 : Int)) ∈ ms := by
          rw [hmf]
          refine List.mem_map.2 ⟨pl[0], List.mem_filter.2 ⟨List.getElem_mem h0, ?_⟩, rfl⟩
          rw [g0]; simp
        unfold cntM at c
        rw [List.countP_eq_zero] at c
        have := c _ hin
        simp only [decide_eq_true_eq] at this
        omega
      have := segRead_none s b off ms hf
      rw [this]
      unfold readL
      rw [find_map_none hn]
      rfl
    · have hk : cntM ms off - 1 < ms.length := by have := cnt_le ms off; omega
      rw [findV_some c hk] at hf
      have hle := (cnt_iff off ms hmp _ hk).2 (by omega)
      obtain ⟨k, hkl, hm⟩ := hmem _ (List.getElem_mem hk)
      rw [hm] at hf hle
      simp only at hf hle
      obtain ⟨g1, g2, g3⟩ := hget k hkl
      have := segRead_some s hs b off ms pl[k].2 (by omega) pl[k].1.at_ (by rw [g1]; omega) hf
      rw [this, g1, g3]
      have hsplit : (pl.map (·.1)).find? (fun r => decide (r.at_ = off)) = ((pl.drop k).map (·.1)).find? (fun r => decide (r.at_ = off)) := by
        conv => lhs; rw [← List.take_append_drop k pl, List.map_append, List.find?_append]
        rw [find_map_none]
        · rfl
        · intro x hx
          obtain ⟨j, hj, rfl⟩ := List.getElem_of_mem hx
          rw [List.getElem_take]
          have hj2 : j < k ∧ j < pl.length := by simp at hj; omega
          rw [(hget j hj2.2).1]; rw [g1] at hle; omega
      unfold readL
      rw [hsplit]
end Go.Proofs.Ythijgiinafanfaa
