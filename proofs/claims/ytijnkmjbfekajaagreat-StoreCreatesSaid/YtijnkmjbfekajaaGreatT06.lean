import Derived.Test.YtijnkmjbfekajaaGreatT05
set_option linter.unusedSimpArgs false
set_option linter.unusedVariables false
namespace Go.Proofs.YtijnkmjbfekajaaGreat
open Go.Vi
set_option maxRecDepth 8000 in
theorem pswap_spec (d : Dsk) {k u : Nat} (hd : okN k u d) (hk : k ≤ 900000) (hu : u ≤ 900000000000) (m : Man) (hm : m.ok) : call 26 [.agg d.l, .agg m.l] [] = some (dskV (swapS m (d, 0)), []) := by
  have q := sswap_spec (d, 0) hd hk hu m hm
  apply enterS s26 rfl
  generalize swapS m (d, 0) = w at *
  obtain ⟨mv, ms, mz, mm⟩ := m
  obtain ⟨fl, cp, ar, lf, dn⟩ := d
  obtain ⟨⟨f2, cp2, ar2, lf2, dn2⟩, e2⟩ := w
  simp only [stB, Dsk.l, Man.l, List.cons_append, List.nil_append] at q
  have r : ∀ P Q R : Box, callIso call 33 [.one (.p 3 0), .agg [.d (.i .i64 mv), .d (.l (ms.map eI)), .d (.i .i64 mz), .d (.i .u32 mm)]] [P, Q, R, .cells [.d (.l (fl.map Fil.enc)), .d (.i .i64 cp), .d (.b ar), .d (.i .i64 lf), .d (.b dn), .d (.i .i64 0)]] = some (.tup [], [P, Q, R, .cells [.d (.l (f2.map Fil.enc)), .d (.i .i64 cp2), .d (.b ar2), .d (.i .i64 lf2), .d (.b dn2), .d (.i .i64 e2)]]) := fun P Q R =>
    iso_at (ids := [3]) rfl rfl rfl q rfl
  (simp (disch:=first|decide|omega|(intros;exact Eq.trans rfl rfl)|(simp only[puri];done)) only [wkf, a26, Dsk.l, Man.l, ↓r, go_sem, seval, dis, vdr, A.kind, A.xs, optX])
  try simp [trim, dskV, Dsk.l]
theorem rmanRight_big (m : Man) (h : 64 < m.segs.length) (hl : m.segs.length ≤ 9223372036854775807) : call 25 [.agg m.l] [] = some (vb false, []) := by
  obtain ⟨ver, segs, size, sum⟩ := m
  unfold Man.l
  simp only at h hl ⊢
  apply enterS s25 rfl
  have d3 : ¬ (segs.length : Int) < 1 := by omega
  have d4 : (64 : Int) < segs.length := by omega
  by_cases c1 : ver < 1
  · (simp (disch:=first|decide|omega|(intros;exact Eq.trans rfl rfl)|(simp only[puri];done)) only [a25, c1, go_sem, seval, dis])
    try simp [trim]
  · by_cases c2 : (1099511627776 : Int) < ver
    · (simp (disch:=first|decide|omega|(intros;exact Eq.trans rfl rfl)|(simp only[puri];done)) only [a25, c1, c2, go_sem, seval, dis])
      try simp [trim]
    · (simp (disch:=first|decide|omega|(intros;exact Eq.trans rfl rfl)|(simp only[puri];done)) only [a25, c1, c2, d3, d4, go_sem, seval, dis])
      try simp [trim]
theorem rmanRight_any (m : Man) (hl : m.segs.length ≤ 9223372036854775807) : ∃ b, call 25 [.agg m.l] [] = some (vb b, []) ∧ (b = true → m.segs.length ≤ 64) := by
  by_cases h : m.segs.length ≤ 64
  · exact ⟨_, rmanRight_spec m (by omega), fun _ => h⟩
  · exact ⟨false, rmanRight_big m (by omega) hl, by simp⟩
theorem used_le : ∀ (l : List Fil) (n : Nat), (∀ f ∈ l, f.data.length ≤ n) → usedF l ≤ l.length * n
  | [], n, _ => by simp [usedF]
  | f :: l, n, h => by
    have ih := used_le l n fun x hx => h x (List.mem_cons_of_mem _ hx)
    have h1 := h f (by simp)
    have e : usedF (f :: l) = f.data.length + usedF l := by simp [usedF]
    rw [e, List.length_cons, Nat.add_mul]; omega
set_option maxRecDepth 20000 in
theorem creates_law1 (d : Dsk) (hl : d.files.length ≤ 9223372036854775807) (hz : ∀ f ∈ d.files, f.data.length ≤ 9223372036854775807) (hcl : d.cap < 9223372036854775808 ∧ d.left < 9223372036854775808) (m : Man) (hml : m.segs.length ≤ 9223372036854775807) (hms : 0 ≤ m.sum ∧ m.sum < 4294967296) :
    call 5 [.agg d.l, .agg m.l] [] = some (vb true, []) := by
  have q1 := few_spec d hl
  have q2 := right06_spec d hl hz
  obtain ⟨b, q3, hb⟩ := rmanRight_any m hml
  have q0 := awake12_spec
  apply enterS s5 rfl
  cases c1 : fewB d with
  | false =>
    rw [c1] at q1
    obtain ⟨mv, ms, mz, mm⟩ := m
    obtain ⟨fl, cp, ar, lf, dn⟩ := d
    simp only [Dsk.l, Man.l] at q1 ⊢
    (simp (disch:=first|decide|omega|(intros;exact Eq.trans rfl rfl)|(simp only[puri];done)) only [wkf, a5, q1, q0, go_sem, seval, dis])
    try simp [trim]
  | true =>
    rw [c1] at q1
    cases c2 : rightB d with
    | false =>
      rw [c2] at q2
      obtain ⟨mv, ms, mz, mm⟩ := m
      obtain ⟨fl, cp, ar, lf, dn⟩ := d
      simp only [Dsk.l, Man.l] at q1 q2 ⊢
      (simp (disch:=first|decide|omega|(intros;exact Eq.trans rfl rfl)|(simp only[puri];done)) only [wkf, a5, q1, q2, q0, go_sem, seval, dis])
      try simp [trim]
    | true =>
      rw [c2] at q2
      cases b with
      | false =>
        obtain ⟨mv, ms, mz, mm⟩ := m
        obtain ⟨fl, cp, ar, lf, dn⟩ := d
        simp only [Dsk.l, Man.l] at q1 q2 q3 ⊢
        (simp (disch:=first|decide|omega|(intros;exact Eq.trans rfl rfl)|(simp only[puri];done)) only [wkf, a5, q1, q2, q3, q0, go_sem, seval, dis])
        try simp [trim]
      | true =>
        have hb := hb rfl
        obtain ⟨s1, s2, s3⟩ := right_srt c2
        unfold fewB at c1
        simp only [Bool.and_eq_true, decide_eq_true_eq, List.all_eq_true] at c1
        have hu := used_le d.files 3000 fun f hf => by have := c1.2 f hf; simp only [fewAt, Bool.and_eq_true, decide_eq_true_eq] at this; exact this.1
        have hd : okN 40 120000 d := ⟨c1.1, s1, ⟨s3, hcl.2⟩, ⟨s2, hcl.1⟩, by omega⟩
        have hm : m.ok := ⟨by omega, hms⟩
        have p1 := pswap_spec d hd (by decide) (by decide) m hm
        have p2 := rswap_spec d hd (by decide) (by decide) m hm
        have k1 : okN 41 120800 (swapS m (d, 0)).1 := swap_okN (s := (d, 0)) hd m
        generalize swapS m (d, 0) = w at *
        have p3 := same06_spec w.1 (by have := k1.len; omega)
        have he : okN 40 120000 { d with files := [] } := ⟨by simp, List.Pairwise.nil, ⟨s3, hcl.2⟩, ⟨s2, hcl.1⟩, by simp [usedF]⟩
        have p4 := new_spec { d with files := [] } he (by decide) (by decide)
        have p5 := rnew_spec { d with files := [] } he (by decide) (by decide)
        have k2 : (createT { d with files := [] }).1.disk.files.length ≤ 1000000 ∧ (createT { d with files := [] }).1.segs.length ≤ 1000000 := by
          have h1 := crt_ok (s := ({ d with files := [] }, 0)) he (fileN 0)
          unfold createT
          simp only []
          have h2 : okN 42 120800 (if (crtS (fileN 0) ({ d with files := [] }, 0)).2 = 0 then swapS ⟨1, [0], 0, 0⟩ (crtS (fileN 0) ({ d with files := [] }, 0)) else crtS (fileN 0) ({ d with files := [] }, 0)).1 := by
            split
            · exact swap_okN h1 _
            · exact h1.up (by omega) (by omega)
          have := h2.len
          generalize (if (crtS (fileN 0) ({ d with files := [] }, 0)).2 = 0 then swapS ⟨1, [0], 0, 0⟩ (crtS (fileN 0) ({ d with files := [] }, 0)) else crtS (fileN 0) ({ d with files := [] }, 0)) = w2 at *
          by_cases c : w2.2 = 0
          · rw [if_pos c]; exact ⟨by show w2.1.files.length ≤ _; omega, by simp⟩
          · rw [if_neg c]; exact ⟨by show w2.1.files.length ≤ _; omega, by simp⟩
        generalize createT { d with files := [] } = r at *
        have p6 := same12_spec r.1 k2.1 k2.2
        obtain ⟨mv, ms, mz, mm⟩ := m
        obtain ⟨fl, cp, ar, lf, dn⟩ := d
        obtain ⟨⟨f2, cp2, ar2, lf2, dn2⟩, e2⟩ := w
        obtain ⟨⟨⟨f3, cp3, ar3, lf3, dn3⟩, v3, g3, n3, s3', z3, u3⟩, e3⟩ := r
        simp only [Dsk.l, Man.l, dskV, stoV, Sto.l, List.map_nil, List.cons_append, List.nil_append] at q1 q2 q3 p1 p2 p3 p4 p5 p6 ⊢
        have ee2 : (e2 == e2) = true := by simp
        have ee3 : (e3 == e3) = true := by simp
        (simp (disch:=first|decide|omega|(intros;exact Eq.trans rfl rfl)|(simp only[puri];done)) only [wkf, a5, q1, q2, q3, q0, p1, p2, p3, p4, p5, p6, ee2, ee3, go_sem, seval, dis])
        try simp [trim]
end Go.Proofs.YtijnkmjbfekajaaGreat

namespace Go.Proofs.YtijnkmjbfekajaaGreat
open Go.Vi
theorem eI.of (r : List D) (h : wfRow [.i .i64] r) : ∃ n : Int, r = eI n ∧ True := by
  simp only [wfRow, wfT] at h
  obtain ⟨_, _, rfl, ⟨n, rfl, _⟩, rfl⟩ := h
  exact ⟨n, rfl, trivial⟩
theorem storeCreates_pure (xs : List V) (h : wfAs [(true, [.l [.s, .s, .i .i64], .i .i64, .b, .i .i64, .b]), (true, [.i .i64, .l [.i .i64], .i .i64, .i .u32])] xs) : call 5 xs [] = some (vb true, []) := by
  simp only [wfAs, wfA] at h
  obtain ⟨_, _, rfl, ⟨d, rfl, hd⟩, _, _, rfl, ⟨m, rfl, hm⟩, rfl⟩ := h
  simp only [wfRow, wfT] at hd hm
  obtain ⟨_, _, e1, ⟨rows, rfl, hl, hr⟩, _, _, e2, ⟨cp, rfl, a1, a2⟩, _, _, e3, ⟨ar, rfl⟩, _, _, e4, ⟨lf, rfl, b1, b2⟩, _, _, e5, ⟨dn, rfl⟩, rfl⟩ := hd
  subst e1 e2 e3 e4 e5
  obtain ⟨_, _, f1, ⟨mv, rfl, c1, c2⟩, _, _, f2, ⟨rows2, rfl, hl2, hr2⟩, _, _, f3, ⟨mz, rfl, d1, d2⟩, _, _, f4, ⟨mm, rfl, g1, g2⟩, rfl⟩ := hm
  subst f1 f2 f3 f4
  obtain ⟨l, rfl, ha⟩ := rows_map Fil.of rows hr
  obtain ⟨l2, rfl, _⟩ := rows_map eI.of rows2 hr2
  have a2' : cp < 9223372036854775808 := Int.lt_of_le_of_lt a2 (by decide)
  have b2' : lf < 9223372036854775808 := Int.lt_of_le_of_lt b2 (by decide)
  have g1' : 0 ≤ mm := Int.le_trans (by decide) g1
  have g2' : mm < 4294967296 := Int.lt_of_le_of_lt g2 (by decide)
  exact creates_law1 ⟨l, cp, ar, lf, dn⟩ (by simpa using hl) (fun f hf => (ha f hf).2.1) ⟨a2', b2'⟩ ⟨mv, l2, mz, mm⟩ (by simpa using hl2) ⟨g1', g2'⟩
end Go.Proofs.YtijnkmjbfekajaaGreat

