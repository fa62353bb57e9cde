import Derived.Test.YthlnpioogbmogaaGreatT06
set_option linter.unusedSimpArgs false
set_option linter.unusedVariables false
namespace Go.Proofs.YthlnpioogbmogaaGreat
open Go.Vi
theorem goT_ok {k u : Nat} : ∀ (l : List Txt) (d : Dsk), okN k u d → okN k u (goT l d).1
  | [], d, h => h
  | a :: l, d, h => by
    have := del_okN (s := (d, 0)) h a
    rw [show delS a (d, 0) = chgF d (delR d.files a) from stp_ye _ _] at this
    by_cases c : (chgF d (delR d.files a)).2 = 0
    · have e1 : goT (a :: l) d = goT l (chgF d (delR d.files a)).1 := if_pos c
      rw [e1]; exact goT_ok l _ this
    · have e1 : goT (a :: l) d = chgF d (delR d.files a) := if_neg c
      rw [e1]; exact this
theorem inst_ok {k u : Nat} {s : Sto} (h : okS k u s) (at_ : Int) {x : Txt} (hx : x.length ≤ 1000) : okS (k + 3) (u + 2000) (instT s at_ x).1 := by
  have h2 := h.up (k' := k + 3) (u' := u + 2000) (by omega) (by omega)
  have kr : okN (k + 3) (u + 2000) (u0 (snapN at_) (fileN at_) x (newX (s.ver + 1) at_ x).man s.disk).1.1 := u0_ok h.dsk hx trivial trivial _
  unfold instT
  by_cases c0 : parseF x = none ∨ at_ ≤ s.next ∨ 1099511627776 < at_
  · rw [if_pos c0]; exact h2
  · rw [if_neg c0]
    have c1 : ¬ at_ ≤ s.next := fun h => c0 (Or.inr (Or.inl h))
    have c2 : ¬ 1099511627776 < at_ := fun h => c0 (Or.inr (Or.inr h))
    have hn := h.next
    have hv := h.ver
    split
    · exact ⟨kr, h2.len, h2.seg, h2.next, h2.ver, h2.sum⟩
    · refine ⟨goT_ok _ _ kr, by show 1 ≤ 1 ∧ 1 ≤ 64; omega, fun g hg => ?_, by show 0 ≤ at_ ∧ at_ ≤ 1099511627776; omega, by show 0 ≤ s.ver + 1 ∧ s.ver + 1 ≤ ((u + 2000 : Nat) : Int); omega, sumT_lt x⟩
      have hg' : g ∈ [(⟨at_, 0, 0⟩ : Seg)] := hg
      rw [List.mem_singleton] at hg'
      subst hg'
      exact ⟨by show 0 ≤ at_ ∧ at_ ≤ 1099511627776; omega, by show (0 : Int) ≤ 0 ∧ (0 : Int) ≤ ((u + 2000 : Nat) : Int); omega, by show (0 : Int) ≤ 0 ∧ (0 : Int) ≤ ((u + 2000 : Nat) : Int); omega⟩
def exW : Txt := [1, 97, 1, 49]
theorem ex_e : (instT (createT d0).1 7 exW).2 = 0 := by decide +kernel
theorem ex_s : (instT (createT d0).1 7 exW).1.segs = [⟨7, 0, 0⟩] := by decide +kernel
theorem ex_n : (instT (createT d0).1 7 exW).1.next = 7 := by decide +kernel
theorem ex_w : snapT (instT (createT d0).1 7 exW).1 = exW := by decide +kernel
set_option maxRecDepth 8000 in
set_option maxHeartbeats 2000000 in
theorem awake15_spec : call 7 [] [] = some (vb true, []) := by
  have q0 := rnew_spec d0 d0_ok (by decide) (by decide)
  have hp := new_PI
  have q1 := inst_spec (createT d0).1 hp.ok (by decide) (by decide) 7 (by decide) exW (by decide)
  have o1 := inst_ok hp.ok 7 (x := exW) (by decide)
  have q2 := rsnap_sto (instT (createT d0).1 7 exW).1 o1 (by decide)
  rw [ex_w] at q2
  have e1 := ex_e
  have e2 := ex_s
  have e3 := ex_n
  have hd0 : d0.l = [.d (.l []), .d (.i .i64 0), .d (.b false), .d (.i .i64 0), .d (.b false)] := rfl
  have hcell : ∀ s : Sto, s.l = [.d (.l (s.disk.files.map Fil.enc)), .d (.i .i64 s.disk.cap), .d (.b s.disk.armed), .d (.i .i64 s.disk.left), .d (.b s.disk.down), .d (.i .i64 s.ver), .d (.l (s.segs.map Seg.enc)), .d (.i .i64 s.next), .d (.i .i64 s.sure), .d (.i .i64 s.size), .d (.i .u32 s.sum)] := fun _ => rfl
  have hw : exW = [1, 97, 1, 49] := rfl
  generalize createT d0 = r0 at *
  obtain ⟨st0, e0⟩ := r0
  simp only at q1 q2 e1 e2 e3 o1 hp
  generalize instT st0 7 exW = r at *
  obtain ⟨⟨⟨fl, cp, ar, lf, dn⟩, ver, segs, next, sure, size, sum⟩, e⟩ := r
  simp only at e1 e2 e3
  subst e1 e2 e3
  simp only [stoV, hcell, hd0, hw, Seg.enc, List.map_cons, List.map_nil] at q0 q1 q2
  have eb : (([1, 97, 1, 49] : Txt) == [1, 97, 1, 49]) = true := rfl
  apply enterS s7 rfl
  (simp (disch:=first|decide|omega|(intros;exact rfl)|(simp only[puri];done)) only [wkf, a7, q0, q1, q2, eb, go_sem, seval, dis])
  try simp [trim]
set_option maxRecDepth 8000 in
set_option maxHeartbeats 4000000 in
theorem plays15 (seg : Nat) (hs : seg < 256) (l : List Ac) (hl : l.length ≤ 9223372036854775807) (ha : ∀ a ∈ l, a.ok) (at_ : Int) (hat : -9223372036854775808 ≤ at_ ∧ at_ < 9223372036854775808) (x : Txt) :
    call 3 [.agg [.d (.i .u8 (seg : Nat)), .d (.l (l.map Ac.enc)), .d (.i .i64 at_), .d (.s x)]] [] = some (vb true, []) := by
  have q1 := rplay_spec (20 + (seg : Int)) l hl ha
  have hp := play_PI (20 + (seg : Int)) l ha
  have q2 := awake15_spec
  have hcell : ∀ s : Sto, s.l = [.d (.l (s.disk.files.map Fil.enc)), .d (.i .i64 s.disk.cap), .d (.b s.disk.armed), .d (.i .i64 s.disk.left), .d (.b s.disk.down), .d (.i .i64 s.ver), .d (.l (s.segs.map Seg.enc)), .d (.i .i64 s.next), .d (.i .i64 s.sure), .d (.i .i64 s.size), .d (.i .u32 s.sum)] := fun _ => rfl
  apply enterS s3 rfl
  generalize playT (20 + (seg : Int)) l = P at *
  obtain ⟨st, ok⟩ := P
  simp only [hcell] at q1 hp
  cases ok with
  | false =>
    (simp (disch:=first|decide|omega|(intros;exact rfl)|(simp only[puri];done)) only [wkf, a3, q1, q2, go_sem, seval, dis])
  | true =>
    by_cases c : (1000 : Int) < (x.length : Int)
    · (simp (disch:=first|decide|omega|(intros;exact rfl)|(simp only[puri];done)) only [wkf, a3, q1, q2, decide_eq_true c, go_sem, seval, dis])
    · have q3 := inst_spec st hp.ok (by decide) (by decide) at_ hat x (by omega)
      have q4 := rinst_spec st hp.ok (by decide) (by decide) at_ hat x (by omega)
      have o1 := inst_ok hp.ok at_ (x := x) (by omega)
      generalize instT st at_ x = r at *
      obtain ⟨y, e⟩ := r
      have q5 := same12_spec y (by have := o1.dsk.len; simp only at this; omega) (by have := o1.len; simp only at this; omega)
      simp only [stoV, hcell] at q3 q4 q5
      (simp (disch:=first|decide|omega|(intros;exact rfl)|(simp only[puri];done)) only [wkf, a3, q1, q2, decide_eq_false c, q3, q4, q5, go_sem, seval, dis])
      try simp
end Go.Proofs.YthlnpioogbmogaaGreat

namespace Go.Proofs.YthlnpioogbmogaaGreat
open Go.Vi
theorem installPlays_pure (xs : List V) (h : wfAs [(true, [.i .u8, .l [.i .i64, .i .i64, .i .i64, .s], .i .i64, .s])] xs) : call 3 xs [] = some (vb true, []) := by
  simp only [wfAs, wfA] at h
  obtain ⟨_, _, rfl, ⟨d, rfl, hd⟩, rfl⟩ := h
  simp only [wfRow, wfT] at hd
  obtain ⟨_, _, e1, ⟨b, rfl, a1, a2⟩, _, _, e2, ⟨rows, rfl, hl, hr⟩, _, _, e3, ⟨o, rfl, b1, b2⟩, _, _, e4, ⟨s, rfl, c1⟩, rfl⟩ := hd
  subst e1 e2 e3 e4
  obtain ⟨l, rfl, ha⟩ := rows_map Ac.of rows hr
  have a1' : 0 ≤ b := Int.le_trans (by decide) a1
  have a2' : b < 256 := Int.lt_of_le_of_lt a2 (by decide)
  have b1' : -9223372036854775808 ≤ o := Int.le_trans (by decide) b1
  have b2' : o < 9223372036854775808 := Int.lt_of_le_of_lt b2 (by decide)
  have eb : ((b.toNat : Nat) : Int) = b := Int.toNat_of_nonneg a1'
  have := plays15 b.toNat (by omega) l (by simpa using hl) ha o ⟨b1', b2'⟩ s
  rw [eb] at this
  exact this
end Go.Proofs.YthlnpioogbmogaaGreat

