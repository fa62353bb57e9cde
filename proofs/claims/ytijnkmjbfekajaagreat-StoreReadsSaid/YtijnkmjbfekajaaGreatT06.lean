import Derived.Test.YtijnkmjbfekajaaGreatT05
import Derived.Test.YtijnkmjbfekajaaGreatVid
set_option linter.unusedSimpArgs false
set_option linter.unusedVariables false
namespace Go.Proofs.YtijnkmjbfekajaaGreat
open Go.Vi
theorem read_has (l : List Fil) (n : Txt) : (readF l n).2 = 0 ↔ hasF l n = true := by
  unfold readF hasF
  cases l[posF l n]? with
  | none => simp
  | some f =>
    simp only []
    by_cases h : f.name = n
    · simp [h]
    · simp [h]
def tailT (tx : Txt) (d : Dsk) : Dsk × Int :=
  let c := chgF d (crtR d.files [110])
  if c.2 ≠ 0 then c else
    let p := chgF c.1 (appR c.1.files c.1.cap [110] tx)
    if p.2 = 9 then (let x := chgF p.1 (delR p.1.files [110]); if x.2 = 0 then (x.1, 9) else x) else
      if p.2 ≠ 0 then p else
        let y := chgF p.1 (synR p.1.files [110])
        if y.2 ≠ 0 then y else chgF y.1 (renR y.1.files [110] [109])
def rswapT (m : Man) (d : Dsk) : Dsk × Int :=
  if (manPut m).2 ≠ 0 then (d, (manPut m).2) else
    if hasF d.files [110] = true then (let x := chgF d (delR d.files [110]); if x.2 ≠ 0 then x else tailT (manPut m).1 x.1) else tailT (manPut m).1 d
theorem stp_no {s : Dsk × Int} (h : s.2 ≠ 0) (f : Dsk → Dsk × Int) : stp s f = s := by unfold stp; rw [if_neg h]
theorem stp_ye (d : Dsk) (f : Dsk → Dsk × Int) : stp (d, 0) f = f d := by unfold stp; rw [if_pos rfl]
theorem pair_eta {s : Dsk × Int} {e : Int} (h : s.2 = e) : s = (s.1, e) := by rw [← h]
theorem tail_eq (tx : Txt) (d : Dsk) : (if (crtS [110] (d, 0)).2 ≠ 0 then crtS [110] (d, 0) else renS [110] [109] (synS [110] (unlS [110] (appS [110] tx (crtS [110] (d, 0)))))) = tailT tx d := by
  unfold tailT
  have e0 : crtS [110] (d, 0) = chgF d (crtR d.files [110]) := stp_ye _ _
  rw [e0]
  simp only []
  generalize chgF d (crtR d.files [110]) = c
  by_cases h1 : c.2 = 0
  · rw [if_neg (by simp [h1]), if_neg (by simp [h1]), pair_eta h1]
    have e1 : appS [110] tx (c.1, 0) = chgF c.1 (appR c.1.files c.1.cap [110] tx) := stp_ye _ _
    rw [e1]
    simp only []
    generalize chgF c.1 (appR c.1.files c.1.cap [110] tx) = p
    by_cases h2 : p.2 = 9
    · rw [if_pos h2]
      unfold unlS
      rw [if_neg (by simp [h2])]
      have e2 : delS [110] (p.1, 0) = chgF p.1 (delR p.1.files [110]) := stp_ye _ _
      rw [e2]
      generalize chgF p.1 (delR p.1.files [110]) = x
      by_cases h3 : x.2 = 0
      · rw [if_pos h3]; rfl
      · rw [if_neg h3]
        unfold renS synS
        rw [stp_no (s := x) h3, stp_no h3]
    · rw [if_neg h2]
      unfold unlS
      rw [if_pos h2]
      by_cases h3 : p.2 = 0
      · rw [if_neg (by simp [h3]), pair_eta h3]
        have e2 : synS [110] (p.1, 0) = chgF p.1 (synR p.1.files [110]) := stp_ye _ _
        rw [e2]
        simp only []
        generalize chgF p.1 (synR p.1.files [110]) = y
        by_cases h4 : y.2 = 0
        · rw [if_neg (by simp [h4]), pair_eta h4]
          exact stp_ye _ _
        · rw [if_pos h4]; exact stp_no h4 _
      · rw [if_pos h3]
        unfold renS synS
        rw [stp_no h3, stp_no h3]
  · rw [if_pos h1, if_pos h1]
theorem swap_eq (m : Man) (d : Dsk) : swapS m (d, 0) = rswapT m d := by
  unfold swapS rswapT
  simp only [if_true]
  by_cases h1 : (manPut m).2 = 0
  · rw [if_neg (c := (manPut m).2 ≠ 0) (by simp [h1])]
    by_cases h2 : hasF d.files [110] = true
    · rw [if_pos h2, if_pos ((read_has _ _).2 h2), h1]
      have e0 : delS [110] (d, 0) = chgF d (delR d.files [110]) := stp_ye _ _
      rw [e0]
      generalize chgF d (delR d.files [110]) = x
      by_cases h3 : x.2 = 0
      · rw [if_neg (c := x.2 ≠ 0) (by simp [h3]), pair_eta h3]; exact tail_eq _ _
      · rw [if_pos (c := x.2 ≠ 0) h3]
        have e1 : crtS [110] x = x := stp_no h3 _
        simp only [e1]; rw [if_pos (c := x.2 ≠ 0) h3]
    · rw [if_neg h2, if_neg (fun h => h2 ((read_has _ _).1 h)), h1]
      exact tail_eq _ _
  · rw [if_pos h1]
    have e0 : delS [110] (d, (manPut m).2) = (d, (manPut m).2) := stp_no h1 _
    rw [e0, ite_self]
    have e1 : crtS [110] (d, (manPut m).2) = (d, (manPut m).2) := stp_no h1 _
    rw [e1, if_pos h1]
set_option maxRecDepth 8000 in
set_option maxHeartbeats 2000000 in
theorem rswap_spec (d : Dsk) {k u : Nat} (hd : okN k u d) (hk : k ≤ 900000) (hu : u ≤ 900000000000) (m : Man) (hm : m.ok) : call 27 [.agg d.l, .agg m.l] [] = some (dskV (swapS m (d, 0)), []) := by
  rw [swap_eq]
  have q0 := rmanPut_spec m hm
  have hpl := manPut_len m
  unfold rswapT
  generalize manPut m = p0 at *
  obtain ⟨tx, pe⟩ := p0
  obtain ⟨mv, ms, mz, mm⟩ := m
  have q1 := rfind_spec d (Nat.le_trans hd.len (by omega)) hd.srt [110]
  have q2 := rdelete_spec d (hd.ok (by omega) (by omega)) [110]
  have k1 : okN k u (chgF d (delR d.files [110])).1 := del_okN (s := (d, 0)) hd [110]
  simp only [Man.l] at q0 hpl ⊢
  apply enterS s27 rfl
  by_cases c0 : pe = 0
  · subst c0
    rw [if_neg (by simp)]
    cases c1 : hasF d.files [110] with
    | true =>
      rw [if_pos rfl]
      rw [findI_yes c1] at q1
      generalize posF d.files [110] = pp at *
      generalize chgF d (delR d.files [110]) = x at *
      by_cases c2 : x.2 = 0
      · rw [if_neg (by simp [c2])]
        rw [pair_eta c2] at q2
        generalize x.1 = y at *
        have t1 := rcreate_spec y (k1.ok (by omega) (by omega)) [110]
        have k2 := crt_ok (s := (y, 0)) k1 [110]
        have ec : crtS [110] (y, 0) = chgF y (crtR y.files [110]) := stp_ye _ _
        rw [ec] at k2
        unfold tailT
        simp only []
        generalize chgF y (crtR y.files [110]) = c at *
        by_cases c3 : c.2 = 0
        · rw [if_neg (by simp [c3])]
          have t2 := rappend_spec c.1 (k2.ok (by omega) (by omega)) [110] tx (by omega)
          have k3 := app_ok (s := (c.1, 0)) k2 [110] tx
          have ea : appS [110] tx (c.1, 0) = chgF c.1 (appR c.1.files c.1.cap [110] tx) := stp_ye _ _
          rw [ea] at k3
          generalize chgF c.1 (appR c.1.files c.1.cap [110] tx) = p at *
          have t3 := rdelete_spec p.1 (k3.ok (by omega) (by omega)) [110]
          have t4 := rsync_spec p.1 (k3.ok (by omega) (by omega)) [110]
          have k4 := syn_ok (s := (p.1, 0)) k3 [110]
          have es : synS [110] (p.1, 0) = chgF p.1 (synR p.1.files [110]) := stp_ye _ _
          rw [es] at k4
          generalize chgF p.1 (delR p.1.files [110]) = r at *
          generalize chgF p.1 (synR p.1.files [110]) = w at *
          have t5 := rrename_spec w.1 (k4.ok (by omega) (by omega)) [110] [109]
          generalize chgF w.1 (renR w.1.files [110] [109]) = v at *
          obtain ⟨⟨f1, cp1, ar1, lf1, dn1⟩, e1⟩ := c
          obtain ⟨⟨f2, cp2, ar2, lf2, dn2⟩, e2⟩ := p
          obtain ⟨⟨f3, cp3, ar3, lf3, dn3⟩, e3⟩ := r
          obtain ⟨⟨f4, cp4, ar4, lf4, dn4⟩, e4⟩ := w
          obtain ⟨⟨f5, cp5, ar5, lf5, dn5⟩, e5⟩ := v
          obtain ⟨fy, cpy, ary, lfy, dny⟩ := y
          obtain ⟨fl, cp, ar, lf, dn⟩ := d
          simp only [dskV, Dsk.l] at q1 q2 t1 t2 t3 t4 t5 c3 ⊢
          subst c3
          by_cases c4 : e2 = 9
          · subst c4
            rw [if_pos rfl]
            by_cases c5 : e3 = 0
            · subst c5
              (simp (disch:=first|decide|omega|(intros;exact Eq.trans rfl rfl)|(simp only[puri];done)) only [wkf, a27, q0, q1, q2, t1, t2, t3, go_sem, seval, dis])
              try simp [trim]
            · (simp (disch:=first|decide|omega|(intros;exact Eq.trans rfl rfl)|(simp only[puri];done)) only [wkf, a27, q0, q1, q2, t1, t2, t3, c5, go_sem, seval, dis])
              try simp [trim, c5]
          · rw [if_neg c4]
            by_cases c5 : e2 = 0
            · subst c5
              by_cases c6 : e4 = 0
              · subst c6
                (simp (disch:=first|decide|omega|(intros;exact Eq.trans rfl rfl)|(simp only[puri];done)) only [wkf, a27, q0, q1, q2, t1, t2, t4, t5, go_sem, seval, dis])
                try simp [trim]
              · (simp (disch:=first|decide|omega|(intros;exact Eq.trans rfl rfl)|(simp only[puri];done)) only [wkf, a27, q0, q1, q2, t1, t2, t4, c6, go_sem, seval, dis])
                try simp [trim, c6]
            · (simp (disch:=first|decide|omega|(intros;exact Eq.trans rfl rfl)|(simp only[puri];done)) only [wkf, a27, q0, q1, q2, t1, t2, c4, c5, go_sem, seval, dis])
              try simp [trim, c4, c5]
        · rw [if_pos c3]
          obtain ⟨⟨f1, cp1, ar1, lf1, dn1⟩, e1⟩ := c
          obtain ⟨fy, cpy, ary, lfy, dny⟩ := y
          obtain ⟨fl, cp, ar, lf, dn⟩ := d
          simp only [dskV, Dsk.l] at q1 q2 t1 c3 ⊢
          (simp (disch:=first|decide|omega|(intros;exact Eq.trans rfl rfl)|(simp only[puri];done)) only [wkf, a27, q0, q1, q2, t1, c3, go_sem, seval, dis])
          try simp [trim, c3]
      · rw [if_pos c2]
        obtain ⟨⟨fx, cpx, arx, lfx, dnx⟩, ex⟩ := x
        obtain ⟨fl, cp, ar, lf, dn⟩ := d
        simp only [dskV, Dsk.l] at q1 q2 c2 ⊢
        (simp (disch:=first|decide|omega|(intros;exact Eq.trans rfl rfl)|(simp only[puri];done)) only [wkf, a27, q0, q1, q2, c2, go_sem, seval, dis])
        try simp [trim, c2]
    | false =>
      rw [if_neg (by simp)]
      rw [findI_no c1] at q1
      clear q2 k1
      have k1 := hd
      obtain ⟨y, hy⟩ : ∃ y, y = d := ⟨_, rfl⟩
      have q2 : True := trivial
      rw [← hy] at k1
      have hyd : tailT tx d = tailT tx y := by rw [hy]
      rw [hyd]
      have t1 := rcreate_spec y (k1.ok (by omega) (by omega)) [110]
      have k2 := crt_ok (s := (y, 0)) k1 [110]
      have ec : crtS [110] (y, 0) = chgF y (crtR y.files [110]) := stp_ye _ _
      rw [ec] at k2
      unfold tailT
      simp only []
      generalize chgF y (crtR y.files [110]) = c at *
      by_cases c3 : c.2 = 0
      · rw [if_neg (by simp [c3])]
        have t2 := rappend_spec c.1 (k2.ok (by omega) (by omega)) [110] tx (by omega)
        have k3 := app_ok (s := (c.1, 0)) k2 [110] tx
        have ea : appS [110] tx (c.1, 0) = chgF c.1 (appR c.1.files c.1.cap [110] tx) := stp_ye _ _
        rw [ea] at k3
        generalize chgF c.1 (appR c.1.files c.1.cap [110] tx) = p at *
        have t3 := rdelete_spec p.1 (k3.ok (by omega) (by omega)) [110]
        have t4 := rsync_spec p.1 (k3.ok (by omega) (by omega)) [110]
        have k4 := syn_ok (s := (p.1, 0)) k3 [110]
        have es : synS [110] (p.1, 0) = chgF p.1 (synR p.1.files [110]) := stp_ye _ _
        rw [es] at k4
        generalize chgF p.1 (delR p.1.files [110]) = r at *
        generalize chgF p.1 (synR p.1.files [110]) = w at *
        have t5 := rrename_spec w.1 (k4.ok (by omega) (by omega)) [110] [109]
        generalize chgF w.1 (renR w.1.files [110] [109]) = v at *
        obtain ⟨⟨f1, cp1, ar1, lf1, dn1⟩, e1⟩ := c
        obtain ⟨⟨f2, cp2, ar2, lf2, dn2⟩, e2⟩ := p
        obtain ⟨⟨f3, cp3, ar3, lf3, dn3⟩, e3⟩ := r
        obtain ⟨⟨f4, cp4, ar4, lf4, dn4⟩, e4⟩ := w
        obtain ⟨⟨f5, cp5, ar5, lf5, dn5⟩, e5⟩ := v
        subst hy
        obtain ⟨fl, cp, ar, lf, dn⟩ := y
        simp only [dskV, Dsk.l] at q1 t1 t2 t3 t4 t5 c3 ⊢
        subst c3
        by_cases c4 : e2 = 9
        · subst c4
          rw [if_pos rfl]
          by_cases c5 : e3 = 0
          · subst c5
            (simp (disch:=first|decide|omega|(intros;exact Eq.trans rfl rfl)|(simp only[puri];done)) only [wkf, a27, q0, q1, t1, t2, t3, go_sem, seval, dis])
            try simp [trim]
          · (simp (disch:=first|decide|omega|(intros;exact Eq.trans rfl rfl)|(simp only[puri];done)) only [wkf, a27, q0, q1, t1, t2, t3, c5, go_sem, seval, dis])
            try simp [trim, c5]
        · rw [if_neg c4]
          by_cases c5 : e2 = 0
          · subst c5
            by_cases c6 : e4 = 0
            · subst c6
              (simp (disch:=first|decide|omega|(intros;exact Eq.trans rfl rfl)|(simp only[puri];done)) only [wkf, a27, q0, q1, t1, t2, t4, t5, go_sem, seval, dis])
              try simp [trim]
            · (simp (disch:=first|decide|omega|(intros;exact Eq.trans rfl rfl)|(simp only[puri];done)) only [wkf, a27, q0, q1, t1, t2, t4, c6, go_sem, seval, dis])
              try simp [trim, c6]
          · (simp (disch:=first|decide|omega|(intros;exact Eq.trans rfl rfl)|(simp only[puri];done)) only [wkf, a27, q0, q1, t1, t2, c4, c5, go_sem, seval, dis])
            try simp [trim, c4, c5]
      · rw [if_pos c3]
        obtain ⟨⟨f1, cp1, ar1, lf1, dn1⟩, e1⟩ := c
        subst hy
        obtain ⟨fl, cp, ar, lf, dn⟩ := y
        simp only [dskV, Dsk.l] at q1 t1 c3 ⊢
        (simp (disch:=first|decide|omega|(intros;exact Eq.trans rfl rfl)|(simp only[puri];done)) only [wkf, a27, q0, q1, t1, c3, go_sem, seval, dis])
        try simp [trim, c3]
  · rw [if_pos c0]
    obtain ⟨fl, cp, ar, lf, dn⟩ := d
    simp only [dskV, Dsk.l] at ⊢
    (simp (disch:=first|decide|omega|(intros;exact Eq.trans rfl rfl)|(simp only[puri];done)) only [wkf, a27, q0, c0, go_sem, seval, dis])
    try simp [trim, c0]
end Go.Proofs.YtijnkmjbfekajaaGreat

namespace Go.Proofs.YtijnkmjbfekajaaGreat
open Go.Vi
theorem rlast_spec (s : Sto) (g : Seg) (hl : s.segs.length ≤ 1000000) (hg : s.segs.getLast? = some g) (hb : 0 ≤ g.base ∧ g.base ≤ 1099511627776) : call 74 [.agg s.l] [] = some (vs (fileN g.base), []) := by
  have q := rseg_spec hb
  apply enterS s74 rfl
  obtain ⟨⟨fl, cp, ar, lf, dn⟩, ver, segs, next, sure, size, sum⟩ := s
  simp only at hg hl
  have h0 : 0 < segs.length := by cases segs <;> simp_all
  have h2 : ((segs.length : Int) - 1).toNat = segs.length - 1 := by omega
  have g1 : (segs.map Seg.enc)[segs.length - 1]? = some g.enc := by rw [List.getElem?_map, ← List.getLast?_eq_getElem?, hg]; rfl
  generalize fileN g.base = N at *
  obtain ⟨gb, gn, gz⟩ := g
  simp only [Seg.enc] at g1 q
  (simp (disch:=first|decide|omega|(intros;exact Eq.trans rfl rfl)|(simp only[puri];done)) only [a74, Sto.l, Dsk.l, h2, g1, q, go_sem, seval, dis])
  try simp [trim]
theorem rsync_sto {k u : Nat} (s : Sto) (h : okS k u s) (hk : k ≤ 800000) (hu : u ≤ 800000000000) : call 38 [.agg s.l] [] = some (stoV (syncT s), []) := by
  have q1 := rlast_spec s s.last (by have := h.len; omega) (last_q h.len.1) (h.seg _ (last_mem h.len.1)).1
  have q3 := rsync_spec s.disk (h.dsk.ok (by omega) (by omega)) (fileN s.last.base)
  apply enterS s38 rfl
  unfold syncT
  simp only []
  generalize chgF s.disk (synR s.disk.files (fileN s.last.base)) = r at *
  generalize fileN s.last.base = N at *
  obtain ⟨⟨fl, cp, ar, lf, dn⟩, ver, segs, next, sure, size, sum⟩ := s
  obtain ⟨⟨f2, cp2, ar2, lf2, dn2⟩, e2⟩ := r
  simp only [Sto.l, Dsk.l, dskV, List.cons_append, List.nil_append] at q1 q3 ⊢
  by_cases c : e2 = 0
  · subst c
    (simp (disch:=first|decide|omega|(intros;exact Eq.trans rfl rfl)|(simp only[puri];done)) only [wkf, a38, q1, q3, stoV, Sto.l, Dsk.l, go_sem, seval, dis, vdr, A.kind, A.xs, optX])
    try simp [trim]
  · (simp (disch:=first|decide|omega|(intros;exact Eq.trans rfl rfl)|(simp only[puri];done)) only [wkf, a38, q1, q3, c, stoV, Sto.l, Dsk.l, go_sem, seval, dis, vdr, A.kind, A.xs, optX])
    try simp [trim, c]
theorem rnew_eq (d : Dsk) : createT d = (let c := chgF d (crtR d.files (fileN 0)); if c.2 ≠ 0 then (⟨c.1, 0, [], 0, 0, 0, 0⟩, c.2) else
    let w := swapS ⟨1, [0], 0, 0⟩ (c.1, 0); if w.2 ≠ 0 then (⟨w.1, 0, [], 0, 0, 0, 0⟩, w.2) else (⟨w.1, 1, [⟨0, 0, 0⟩], 0, 0, 0, 0⟩, 0)) := by
  unfold createT
  have e0 : crtS (fileN 0) (d, 0) = chgF d (crtR d.files (fileN 0)) := stp_ye _ _
  rw [e0]
  simp only []
  generalize chgF d (crtR d.files (fileN 0)) = c
  by_cases h : c.2 = 0
  · rw [if_pos h, if_neg (show ¬ (c.2 ≠ 0) from by simp [h]), ← pair_eta h]
    generalize swapS ⟨1, [0], 0, 0⟩ c = w
    by_cases h2 : w.2 = 0
    · simp [h2]
    · simp [h2]
  · simp [h]
set_option maxRecDepth 8000 in
theorem rnew_spec {k u : Nat} (d : Dsk) (hd : okN k u d) (hk : k ≤ 800000) (hu : u ≤ 800000000000) : call 9 [.agg d.l] [] = some (stoV (createT d), []) := by
  rw [rnew_eq]
  have q1 := rseg_spec (n := 0) ⟨by decide, by decide⟩
  have q2 := rcreate_spec d (hd.ok (by omega) (by omega)) (fileN 0)
  have k1 : okN (k + 1) u (chgF d (crtR d.files (fileN 0))).1 := by
    have := crt_ok (s := (d, 0)) hd (fileN 0)
    exact this
  have q3 := fun dd : Dsk => rman_spec ⟨dd, 1, [⟨0, 0, 0⟩], 0, 0, 0, 0⟩ (by simp)
  simp only []
  generalize chgF d (crtR d.files (fileN 0)) = c at *
  have q3 := q3 c.1
  have q4 := rswap_spec c.1 k1 (by omega) (by omega) ⟨1, [0], 0, 0⟩ ⟨by simp, by simp⟩
  generalize swapS ⟨1, [0], 0, 0⟩ (c.1, 0) = w at *
  apply enterS s9 rfl
  generalize fileN 0 = N at *
  obtain ⟨fl, cp, ar, lf, dn⟩ := d
  obtain ⟨⟨f1, cp1, ar1, lf1, dn1⟩, e1⟩ := c
  obtain ⟨⟨f3, cp3, ar3, lf3, dn3⟩, e3⟩ := w
  simp only [dskV, Dsk.l, Sto.l, Seg.enc, Sto.man, Man.l, List.cons_append, List.nil_append, List.map_cons, List.map_nil, eI] at q1 q2 q3 q4 ⊢
  by_cases c1 : e1 = 0
  · subst c1
    by_cases c3 : e3 = 0
    · subst c3
      (simp (disch:=first|decide|omega|(intros;exact Eq.trans rfl rfl)|(simp only[puri];done)) only [wkf, a9, q1, q2, ↓iso_callzA_e, czKA_a, splitS, allD, czR_some, q3, q4, go_sem, seval, dis, vdr, A.kind, A.xs, optX])
      try simp [trim, stoV, Sto.l, Dsk.l, Seg.enc]
    · (simp (disch:=first|decide|omega|(intros;exact Eq.trans rfl rfl)|(simp only[puri];done)) only [wkf, a9, q1, q2, ↓iso_callzA_e, czKA_a, splitS, allD, czR_some, q3, q4, c3, go_sem, seval, dis, vdr, A.kind, A.xs, optX])
      try simp [trim, stoV, Sto.l, Dsk.l, Seg.enc, c3]
  · (simp (disch:=first|decide|omega|(intros;exact Eq.trans rfl rfl)|(simp only[puri];done)) only [wkf, a9, q1, q2, c1, go_sem, seval, dis, vdr, A.kind, A.xs, optX])
    try simp [trim, stoV, Sto.l, Dsk.l, Seg.enc, c1]
end Go.Proofs.YtijnkmjbfekajaaGreat

namespace Go.Proofs.YtijnkmjbfekajaaGreat
open Go.Vi
def rrollD (s : Sto) : Dsk × Int :=
  let c := chgF s.disk (crtR s.disk.files (fileN s.next))
  if c.2 ≠ 0 then c else
    let w := swapS (rollX s).man (c.1, 0)
    if w.2 = 9 then (let r := chgF w.1 (delR w.1.files (fileN s.next)); if r.2 = 0 then (r.1, 9) else r) else w
theorem rrollD_eq (s : Sto) : rollD s = rrollD s := by
  unfold rollD rrollD
  have e0 : crtS (fileN s.next) (s.disk, 0) = chgF s.disk (crtR s.disk.files (fileN s.next)) := stp_ye _ _
  rw [e0]
  simp only []
  generalize chgF s.disk (crtR s.disk.files (fileN s.next)) = c
  by_cases h : c.2 = 0
  · rw [if_pos h, if_neg (show ¬ (c.2 ≠ 0) from by simp [h]), ← pair_eta h]
    generalize swapS (rollX s).man c = w
    unfold unlS
    have e1 : delS (fileN s.next) (w.1, 0) = chgF w.1 (delR w.1.files (fileN s.next)) := stp_ye _ _
    rw [e1]
    by_cases h2 : w.2 = 9
    · simp [h2]
    · simp [h2]
  · simp [h]
set_option maxRecDepth 8000 in
set_option maxHeartbeats 2000000 in
theorem rroll_spec {k u : Nat} (s : Sto) (h : okS k u s) (hk : k ≤ 800000) (hu : u ≤ 800000000000) : call 76 [.agg s.l] [] = some (stoV (rollT s), []) := by
  have q1 := rsync_sto s h hk hu
  have h1 := syncT_ok h
  have hsl : (syncT s).1.segs = s.segs := rfl
  apply enterS s76 rfl
  unfold rollT
  by_cases c0 : 64 ≤ s.segs.length
  · rw [if_pos c0]
    obtain ⟨⟨fl, cp, ar, lf, dn⟩, ver, segs, next, sure, size, sum⟩ := s
    simp only at c0
    have c1 : (64 : Int) ≤ segs.length := by omega
    (simp (disch:=first|decide|omega|(intros;exact Eq.trans rfl rfl)|(simp only[puri];done)) only [wkf, a76, c1, stoV, Sto.l, Dsk.l, go_sem, seval, dis])
    try simp [trim]
  · rw [if_neg c0]
    have c1 : ¬ (64 : Int) ≤ s.segs.length := by omega
    rw [← hsl] at c1
    generalize syncT s = r at *
    obtain ⟨s1, e1⟩ := r
    simp only at q1 h1 hsl c1 ⊢
    by_cases c2 : e1 = 0
    · subst c2
      rw [if_neg (by simp), rrollD_eq]
      have q2 := rseg_spec h1.next
      have q3 := rcreate_spec s1.disk (h1.dsk.ok (by omega) (by omega)) (fileN s1.next)
      have k1 : okN (k + 1) u (chgF s1.disk (crtR s1.disk.files (fileN s1.next))).1 := by
        have := crt_ok (s := (s1.disk, 0)) h1.dsk (fileN s1.next)
        exact this
      have hxl : (rollX s1).segs.length ≤ 1000000 := by have := h1.len; show (s1.segs ++ [_]).length ≤ _; simp; omega
      have q4 := fun d : Dsk => rman_spec { rollX s1 with disk := d } hxl
      unfold rrollD
      simp only []
      generalize chgF s1.disk (crtR s1.disk.files (fileN s1.next)) = c at *
      have q4 := q4 c.1
      have q5 := rswap_spec c.1 k1 (by omega) (by omega) (rollX s1).man ⟨by have := h1.len; show ((s1.segs ++ [_]).map _).length ≤ _; simp; omega, h1.sum⟩
      have k2 : okN (k + 1 + 1) (u + 800) (swapS (rollX s1).man (c.1, 0)).1 := swap_okN (s := (c.1, 0)) k1 _
      generalize swapS (rollX s1).man (c.1, 0) = w at *
      have q6 := rdelete_spec w.1 (k2.ok (by omega) (by omega)) (fileN s1.next)
      generalize chgF w.1 (delR w.1.files (fileN s1.next)) = t at *
      generalize fileN s1.next = N at *
      obtain ⟨⟨fl, cp, ar, lf, dn⟩, ver, segs, next, sure, size, sum⟩ := s
      obtain ⟨⟨fl1, cp1, ar1, lf1, dn1⟩, ver1, segs1, next1, sure1, size1, sum1⟩ := s1
      obtain ⟨⟨fl2, cp2, ar2, lf2, dn2⟩, e2⟩ := c
      obtain ⟨⟨fl3, cp3, ar3, lf3, dn3⟩, e3⟩ := w
      obtain ⟨⟨fl4, cp4, ar4, lf4, dn4⟩, e4⟩ := t
      simp only at hsl
      subst hsl
      have hver := h1.ver
      have hlen := h1.len
      simp only [dskV, Dsk.l, Sto.l, Sto.man, rollX, Man.l, stoV, List.cons_append, List.nil_append, List.map_cons, List.map_nil, List.map_append, Seg.enc] at q1 q2 q3 q4 q5 q6 c1 hver hlen ⊢
      have hok : okRows 3 (segs1.map Seg.enc) = true := okRows_map Seg.len segs1
      have hsm : (segs1.map Seg.enc).length = segs1.length := by simp
      obtain ⟨SQ, hSQ⟩ : ∃ SQ, segs1.map Seg.enc = SQ := ⟨_, rfl⟩
      rw [hSQ] at hok hsm q1 q4 ⊢
      have hsl2 : SQ.length ≤ 64 := by omega
      have htk : (SQ ++ [[D.i .i64 next1, D.i .i64 0, D.i .i64 0]]).take (segs1.length + 1) = SQ ++ [[D.i .i64 next1, D.i .i64 0, D.i .i64 0]] := List.take_of_length_le (by simp; omega)
      have c1' : ¬ (64 : Int) ≤ SQ.length := by omega
      rw [← hsm] at htk
      by_cases c3 : e2 = 0
      · subst c3
        by_cases c4 : e3 = 9
        · subst c4
          by_cases c5 : e4 = 0
          · subst c5
            (simp (disch:=first|decide|omega|(intros;exact Eq.trans rfl rfl)|(simp only[puri];done)) only [wkf, a76, q1, c1', hver, q2, q3, hok, htk, ↓iso_callzA_e, czKA_a, splitS, allD, czR_some, q4, q5, q6, go_sem, seval, dis, vdr, A.kind, A.xs, optX])
            try simp [trim, hSQ]
          · (simp (disch:=first|decide|omega|(intros;exact Eq.trans rfl rfl)|(simp only[puri];done)) only [wkf, a76, q1, c1', hver, q2, q3, hok, htk, ↓iso_callzA_e, czKA_a, splitS, allD, czR_some, q4, q5, q6, c5, go_sem, seval, dis, vdr, A.kind, A.xs, optX])
            try simp [trim, hSQ, c5]
        · by_cases c5 : e3 = 0
          · subst c5
            (simp (disch:=first|decide|omega|(intros;exact Eq.trans rfl rfl)|(simp only[puri];done)) only [wkf, a76, q1, c1', hver, q2, q3, hok, htk, ↓iso_callzA_e, czKA_a, splitS, allD, czR_some, q4, q5, go_sem, seval, dis, vdr, A.kind, A.xs, optX])
            simp [trim, hSQ, Seg.enc, c4]
          · (simp (disch:=first|decide|omega|(intros;exact Eq.trans rfl rfl)|(simp only[puri];done)) only [wkf, a76, q1, c1', hver, q2, q3, hok, htk, ↓iso_callzA_e, czKA_a, splitS, allD, czR_some, q4, q5, c4, c5, go_sem, seval, dis, vdr, A.kind, A.xs, optX])
            simp [trim, hSQ, c4, c5]
      · (simp (disch:=first|decide|omega|(intros;exact Eq.trans rfl rfl)|(simp only[puri];done)) only [wkf, a76, q1, c1', hver, q2, q3, c3, go_sem, seval, dis, vdr, A.kind, A.xs, optX])
        simp [trim, hSQ, c3]
    · rw [if_pos c2]
      obtain ⟨⟨fl, cp, ar, lf, dn⟩, ver, segs, next, sure, size, sum⟩ := s
      obtain ⟨⟨fl1, cp1, ar1, lf1, dn1⟩, ver1, segs1, next1, sure1, size1, sum1⟩ := s1
      simp only at hsl
      subst hsl
      simp only [Dsk.l, Sto.l, stoV, List.cons_append, List.nil_append] at q1 c1 ⊢
      (simp (disch:=first|decide|omega|(intros;exact Eq.trans rfl rfl)|(simp only[puri];done)) only [wkf, a76, q1, c1, c2, go_sem, seval, dis, vdr, A.kind, A.xs, optX])
      try simp [trim]
end Go.Proofs.YtijnkmjbfekajaaGreat

namespace Go.Proofs.YtijnkmjbfekajaaGreat
open Go.Vi
theorem putF_why {r : Rec} (h : whyF r ≠ 0) : (putF r).2 ≠ 0 := by unfold putF; rw [if_neg h]; exact h
set_option maxRecDepth 8000 in
set_option maxHeartbeats 2000000 in
theorem rappend_tail {k u : Nat} (s t : Sto) (h : okS k u s) (ht : okS k u t) (hn : t.next < 1099511627776) (hk : k ≤ 800000) (hu : u ≤ 800000000000) (seg : Int) (r : Rec) (tx : Txt) (hx : tx.length ≤ 90)
    (q0 : call 75 [.agg (r.enc.map .d)] [] = some (vb true, []))
    (q1 : call 77 [.agg (r.enc.map .d)] [] = some (.tup [(false, [.d (.s tx)]), (false, [.d (.i .i64 0)])], [])) (c2 : r.at_ = s.next) (c3 : s.next < 1099511627776)
    (hc : (seg ≤ s.last.size ∧ rollT s = (t, 0)) ∨ (¬ seg ≤ t.last.size ∧ t = s)) :
    call 39 [.agg s.l, vi seg, .agg (r.enc.map .d)] [] = some (stoV (putT t tx), []) := by
  have q3 := rroll_spec s h hk hu
  have q5 := rlast_spec t t.last (by have := ht.len; omega) (last_q ht.len.1) (ht.seg _ (last_mem ht.len.1)).1
  have q7 := rappend_spec t.disk (ht.dsk.ok (by omega) (by omega)) (fileN t.last.base) tx (by omega)
  have hsz := (ht.seg _ (last_mem ht.len.1)).2
  have hlen := ht.len
  have hlens := h.len
  have hnx := ht.next
  have hsp : t.segs.map Seg.enc = t.segs.dropLast.map Seg.enc ++ [t.last.enc] := by
    have hne : t.segs ≠ [] := by intro e; rw [e] at hlen; simp at hlen
    have e : t.segs = t.segs.dropLast ++ [t.segs.getLast hne] := (List.dropLast_concat_getLast hne).symm
    have e2 : t.last = t.segs.getLast hne := by unfold Sto.last; rw [List.getLastD_eq_getLast?, List.getLast?_eq_some_getLast hne]; rfl
    rw [e2]
    conv => lhs; rw [e]
    rw [List.map_append]; rfl
  have hsl : (s.segs.map Seg.enc)[s.segs.length - 1]? = some s.last.enc := by rw [List.getElem?_map, ← List.getLast?_eq_getElem?, last_q hlens.1]; rfl
  have hok := okRows_map Seg.len t.segs
  have hQ : (t.segs.dropLast.map Seg.enc).length = t.segs.length - 1 := by simp
  have hks : ((s.segs.length : Int) - 1) = ((s.segs.length - 1 : Nat) : Int) := by omega
  have hkt : ((t.segs.length : Int) - 1) = ((t.segs.length - 1 : Nat) : Int) := by omega
  unfold putT addSeg
  simp only []
  generalize chgF t.disk (appR t.disk.files t.disk.cap (fileN t.last.base) tx) = d at *
  generalize fileN t.last.base = N at *
  generalize t.last = g at *
  generalize s.last = g0 at *
  generalize rollT s = rr at *
  obtain ⟨b, n, z⟩ := g
  obtain ⟨b0, n0, z0⟩ := g0
  obtain ⟨⟨fl, cp, ar, lf, dn⟩, ver, segs, next, sure, size, sum⟩ := s
  obtain ⟨⟨fl1, cp1, ar1, lf1, dn1⟩, ver1, segs1, next1, sure1, size1, sum1⟩ := t
  obtain ⟨⟨fl2, cp2, ar2, lf2, dn2⟩, e2⟩ := d
  obtain ⟨at_, ti, da⟩ := r
  simp only [Rec.enc, Seg.enc, List.map_cons, List.map_nil, Sto.l, Dsk.l, dskV, List.cons_append, List.nil_append] at q0 q1 q3 q5 q7 c2 c3 hn hsz hlen hlens hnx hsp hsl hok hQ hks hkt hc ⊢
  subst c2
  have c3' : ¬ 1099511627776 ≤ at_ := by omega
  have hfin : ({ disk := ⟨fl2, cp2, ar2, lf2, dn2⟩, ver := ver1, segs := segs1.dropLast ++ [⟨b, n + 1, z + tx.length⟩], next := next1 + 1, sure := sure1, size := size1, sum := sum1 } : Sto).segs.map Seg.enc = segs1.dropLast.map Seg.enc ++ [[D.i .i64 b, D.i .i64 (n + 1), D.i .i64 (z + tx.length)]] := by simp [Seg.enc]
  generalize segs1.dropLast.map Seg.enc = Q at *
  have hml : (segs1.map Seg.enc).length = segs1.length := by simp
  have hl1 : segs1.length = Q.length + 1 := by omega
  have hkt1 : ((Q.length + 1 : Nat) : Int) - 1 = (Q.length : Nat) := by omega
  have hkt2 : ((Q.length : Nat) : Int) + 1 - 1 = (Q.length : Nat) := by omega
  have hat : ∀ x : List D, (Q ++ [x])[Q.length]? = some x := fun x => by simp
  have hst : ∀ x y : List D, (Q ++ [x]).set Q.length y = Q ++ [y] := fun x y => by simp
  rw [hsp] at hok q5
  have hql : Q.length ≤ 64 := by omega
  have htk : ∀ x : List D, (Q ++ [x]).take (Q.length + 1) = Q ++ [x] := fun x => List.take_of_length_le (by simp)
  apply enterS s39 rfl
  rcases hc with ⟨c4, rfl⟩ | ⟨c4, he⟩
  · simp only [stoV, Sto.l, Dsk.l, List.cons_append, List.nil_append] at q3
    rw [hsp] at q3
    by_cases c5 : e2 = 0
    · subst c5
      (simp (disch:=first|decide|omega|(intros;exact Eq.trans rfl rfl)|(simp only[puri];done)) only [wkf, a39, q0, q1, c3', hks, hsl, c4, q3, q5, q7, hok, hkt1, hkt2, hat, hst, hql, htk, List.length_append, List.length_cons, List.length_nil, Nat.zero_add, go_sem, seval, dis, vdr, A.kind, A.xs, optX])
      simp only [ne_eq, not_true_eq_false, if_false, stoV, Sto.l, Dsk.l, List.cons_append, List.nil_append]
      simp only [] at hfin
      rw [hfin]
    · (simp (disch:=first|decide|omega|(intros;exact Eq.trans rfl rfl)|(simp only[puri];done)) only [wkf, a39, q0, q1, c3', hks, hsl, c4, q3, q5, q7, c5, go_sem, seval, dis, vdr, A.kind, A.xs, optX])
      simp [trim, c5, stoV, Sto.l, Dsk.l, hsp]
  · simp only [Sto.mk.injEq, Dsk.mk.injEq] at he
    obtain ⟨⟨rfl, rfl, rfl, rfl, rfl⟩, rfl, rfl, rfl, rfl, rfl, rfl⟩ := he
    clear q3 hsl
    rw [hsp]
    by_cases c5 : e2 = 0
    · subst c5
      (simp (disch:=first|decide|omega|(intros;exact Eq.trans rfl rfl)|(simp only[puri];done)) only [wkf, a39, q0, q1, c3', c4, q5, q7, hok, hkt1, hkt2, hat, hst, hql, htk, List.length_append, List.length_cons, List.length_nil, Nat.zero_add, go_sem, seval, dis, vdr, A.kind, A.xs, optX])
      simp only [ne_eq, not_true_eq_false, if_false, stoV, Sto.l, Dsk.l, List.cons_append, List.nil_append]
      simp only [] at hfin
      rw [hfin]
    · (simp (disch:=first|decide|omega|(intros;exact Eq.trans rfl rfl)|(simp only[puri];done)) only [wkf, a39, q0, q1, c3', hkt1, hkt2, hat, c4, q5, q7, c5, List.length_append, List.length_cons, List.length_nil, Nat.zero_add, go_sem, seval, dis, vdr, A.kind, A.xs, optX])
      simp [trim, c5, stoV, Sto.l, Dsk.l, hsp]
set_option maxRecDepth 8000 in
theorem rappend_sto {k u : Nat} (s : Sto) (h : okS k u s) (hk : k ≤ 700000) (hu : u ≤ 700000000000) (seg : Int) (r : Rec) (hr : r.ok) : call 39 [.agg s.l, vi seg, .agg (r.enc.map .d)] [] = some (stoV (appT s seg r), []) := by
  have q1 := refPutRec_spec r hr
  have hpl := putF_len r
  have e1 : putR r = .tup [(false, [.d (.s (putF r).1)]), (false, [.d (.i .i64 (putF r).2)])] := by unfold putR putF; split <;> rfl
  rw [e1] at q1
  unfold appT
  by_cases c1 : whyF r = 0
  · have c1' : (putF r).2 = 0 := by unfold putF; rw [if_pos c1]
    rw [c1'] at q1
    have q0' := refRight_spec r
    rw [decide_eq_true c1] at q0'
    by_cases c2 : r.at_ = s.next
    · rw [if_neg (by simp [c2, c1'])]
      by_cases c3 : 1099511627776 ≤ s.next
      · rw [if_pos c3]
        obtain ⟨⟨fl, cp, ar, lf, dn⟩, ver, segs, next, sure, size, sum⟩ := s
        obtain ⟨at_, ti, da⟩ := r
        simp only [Rec.enc, List.map_cons, List.map_nil] at q0' c2 c3 ⊢
        subst c2
        apply enterS s39 rfl
        (simp (disch:=first|decide|omega|(intros;exact Eq.trans rfl rfl)|(simp only[puri];done)) only [wkf, a39, q0', c3, stoV, Sto.l, Dsk.l, go_sem, seval, dis])
        try simp [trim]
      · rw [if_neg c3]
        by_cases c4 : seg ≤ s.last.size
        · rw [if_pos c4]
          by_cases c5 : (rollT s).2 = 0
          · rw [if_neg (by simp [c5])]
            have hn : (rollT s).1.next = s.next := rollT_next s
            exact rappend_tail (k := k + 2) (u := u + 800) s (rollT s).1 (h.up (by omega) (by omega)) (rollT_ok h) (by rw [hn]; omega) (by omega) (by omega) seg r (putF r).1 hpl q0' q1 c2 (by omega) (.inl ⟨c4, by rw [← c5]⟩)
          · rw [if_pos c5]
            have q3 := rroll_spec s h (by omega) (by omega)
            have hsl : (s.segs.map Seg.enc)[s.segs.length - 1]? = some s.last.enc := by rw [List.getElem?_map, ← List.getLast?_eq_getElem?, last_q h.len.1]; rfl
            have hlens := h.len
            have hks : ((s.segs.length : Int) - 1) = ((s.segs.length - 1 : Nat) : Int) := by omega
            generalize rollT s = t at *
            generalize s.last = g at *
            obtain ⟨b, n, z⟩ := g
            obtain ⟨⟨fl, cp, ar, lf, dn⟩, ver, segs, next, sure, size, sum⟩ := s
            obtain ⟨⟨⟨fl1, cp1, ar1, lf1, dn1⟩, ver1, segs1, next1, sure1, size1, sum1⟩, e⟩ := t
            obtain ⟨at_, ti, da⟩ := r
            simp only [Rec.enc, Seg.enc, List.map_cons, List.map_nil, Sto.l, Dsk.l, stoV, List.cons_append, List.nil_append] at q0' q3 c2 c3 c4 c5 hsl hks hlens ⊢
            subst c2
            apply enterS s39 rfl
            (simp (disch:=first|decide|omega|(intros;exact Eq.trans rfl rfl)|(simp only[puri];done)) only [wkf, a39, q0', c3, hks, hsl, c4, q3, c5, go_sem, seval, dis])
            try simp [trim, c5]
        · rw [if_neg c4]
          exact rappend_tail (k := k) (u := u) s s h h (by omega) (by omega) (by omega) seg r (putF r).1 hpl q0' q1 c2 (by omega) (.inr ⟨c4, rfl⟩)
    · rw [if_pos (.inr c2)]
      obtain ⟨⟨fl, cp, ar, lf, dn⟩, ver, segs, next, sure, size, sum⟩ := s
      obtain ⟨at_, ti, da⟩ := r
      simp only [Rec.enc, List.map_cons, List.map_nil] at q0' c2 ⊢
      apply enterS s39 rfl
      (simp (disch:=first|decide|omega|(intros;exact Eq.trans rfl rfl)|(simp only[puri];done)) only [wkf, a39, q0', c2, stoV, Sto.l, Dsk.l, go_sem, seval, dis])
      try simp [trim]
  · rw [if_pos (.inl (putF_why c1))]
    have q0' := refRight_spec r
    rw [decide_eq_false c1] at q0'
    obtain ⟨⟨fl, cp, ar, lf, dn⟩, ver, segs, next, sure, size, sum⟩ := s
    obtain ⟨at_, ti, da⟩ := r
    simp only [Rec.enc, List.map_cons, List.map_nil] at q0' ⊢
    apply enterS s39 rfl
    (simp (disch:=first|decide|omega|(intros;exact Eq.trans rfl rfl)|(simp only[puri];done)) only [wkf, a39, q0', stoV, Sto.l, Dsk.l, go_sem, seval, dis])
    try simp [trim]
end Go.Proofs.YtijnkmjbfekajaaGreat

namespace Go.Proofs.YtijnkmjbfekajaaGreat
open Go.Vi
theorem rfloor_spec (s : Sto) : call 14 [.agg s.l] [] = some (vi s.floor, []) := by
  apply enterS s14 rfl
  obtain ⟨⟨fl, cp, ar, lf, dn⟩, ver, segs, next, sure, size, sum⟩ := s
  unfold Sto.floor
  cases segs with
  | nil => (simp (disch:=first|decide|omega|(intros;exact Eq.trans rfl rfl)|(simp only[puri];done)) only [a14, Sto.l, Dsk.l, go_sem, seval, dis])
  | cons g r =>
    (simp (disch:=first|decide|omega|(intros;exact Eq.trans rfl rfl)|(simp only[puri];done)) only [a14, Sto.l, Dsk.l, Seg.len, Seg.at0, go_sem, seval, dis])
    try simp [trim]
theorem all_spec {k u : Nat} (s : Sto) (h : okS k u s) (hk : k ≤ 800000) (hu : u ≤ 1000000) (g : Seg) (hg : g ∈ s.segs) : call 44 [.agg s.l, .agg (g.enc.map .d)] [] = some (vl ((scanS (s.txt g) g.base).1.map fun x => x.1.enc), []) := by
  have hb := (h.seg _ hg).1
  have q1 := rseg_spec hb
  have q2 := rread_spec s.disk (Nat.le_trans h.dsk.len (by omega)) h.dsk.srt (fileN g.base)
  have hl : (s.txt g).length ≤ 1000000 := Nat.le_trans (readF_len _ _) (Nat.le_trans h.dsk.used hu)
  have q3 := refScan_spec (s.txt g) hl g.base (by omega)
  have e2 : (readF s.disk.files (fileN g.base)).1 = s.txt g := rfl
  rw [e2] at q2
  unfold scanV at q3
  generalize (scanS (s.txt g) g.base) = sc at *
  generalize s.txt g = T at *
  generalize (readF s.disk.files (fileN g.base)).2 = re at *
  generalize fileN g.base = N at *
  obtain ⟨b, n, z⟩ := g
  obtain ⟨⟨fl, cp, ar, lf, dn⟩, ver, segs, next, sure, size, sum⟩ := s
  simp only [Seg.enc, List.map_cons, List.map_nil, Sto.l, Dsk.l, List.cons_append, List.nil_append] at q1 q2 q3 ⊢
  apply enterS s44 rfl
  (simp (disch:=first|decide|omega|(intros;exact Eq.trans rfl rfl)|(simp only[puri];done)) only [wkf, a44, q1, q2, q3, go_sem, seval, dis])
  try simp [trim]
end Go.Proofs.YtijnkmjbfekajaaGreat

namespace Go.Proofs.YtijnkmjbfekajaaGreat
open Go.Vi
set_option maxRecDepth 8000 in
theorem want_spec {k u : Nat} (s : Sto) (h : okS k u s) (hk : k ≤ 700000) (hu : u ≤ 700000000000) (seg : Int) (a : Act) (ha : a.ok) : call 12 [.agg s.l, vi seg, .agg (a.enc.map .d)] [] = some (stoV (doT s seg a), []) := by
  have q1 := rsync_sto s h (by omega) (by omega)
  have q2 := arm_spec s.disk a.n ha.2.1
  have q3 := lim_spec s.disk a.n ha.2.1
  have ht := tm3 a.n
  have hnx := h.next
  have q4 := rappend_sto s h hk hu seg ⟨s.next + a.n.tmod 3, 7, a.data⟩ ⟨by simp only []; omega, by simp only []; omega, ha.2.2⟩
  unfold doT
  generalize syncT s = r1 at *
  generalize appT s seg ⟨s.next + a.n.tmod 3, 7, a.data⟩ = r4 at *
  generalize armD s.disk a.n = d2 at *
  generalize limD s.disk a.n = d3 at *
  obtain ⟨⟨fl, cp, ar, lf, dn⟩, ver, segs, next, sure, size, sum⟩ := s
  obtain ⟨⟨⟨fl1, cp1, ar1, lf1, dn1⟩, ver1, segs1, next1, sure1, size1, sum1⟩, e1⟩ := r1
  obtain ⟨⟨⟨fl4, cp4, ar4, lf4, dn4⟩, ver4, segs4, next4, sure4, size4, sum4⟩, e4⟩ := r4
  obtain ⟨fl2, cp2, ar2, lf2, dn2⟩ := d2
  obtain ⟨fl3, cp3, ar3, lf3, dn3⟩ := d3
  obtain ⟨ak, an, ad⟩ := a
  simp only [Act.enc, Rec.enc, List.map_cons, List.map_nil, Sto.l, Dsk.l, stoV, List.cons_append, List.nil_append] at q1 q2 q3 q4 ht hnx ⊢
  apply enterS s12 rfl
  by_cases c1 : ak = 1
  · (simp (disch:=first|decide|omega|(intros;exact Eq.trans rfl rfl)|(simp only[puri];done)) only [wkf, a12, c1, q1, go_sem, seval, dis])
    try simp [trim]
  · by_cases c2 : ak = 2
    · subst c2
      (simp (disch:=first|decide|omega|(intros;exact Eq.trans rfl rfl)|(simp only[puri];done)) only [wkf, a12, q2, go_sem, seval, dis])
      try simp [trim]
    · by_cases c3 : ak = 3
      · subst c3
        (simp (disch:=first|decide|omega|(intros;exact Eq.trans rfl rfl)|(simp only[puri];done)) only [wkf, a12, q3, go_sem, seval, dis])
        try simp [trim]
      · (simp (disch:=first|decide|omega|(intros;exact Eq.trans rfl rfl)|(simp only[puri];done)) only [wkf, a12, c1, c2, c3, q4, go_sem, seval, dis])
        try simp [trim, c1, c2, c3]
end Go.Proofs.YtijnkmjbfekajaaGreat

namespace Go.Proofs.YtijnkmjbfekajaaGreat
open Go.Vi
end Go.Proofs.YtijnkmjbfekajaaGreat

namespace Go.Proofs.YtijnkmjbfekajaaGreat
open Go.Vi
theorem hold_all {k u : Nat} {f seg : Int} {s : Sto} {R : List Rec} (ho : okS k u s) (h : Hold f seg s R) : ∃ N : List SR, s.segs = N.map (·.1) ∧ recsM N = R ∧ ∀ p ∈ N, ((scanS (s.txt p.1) p.1.base).1.map fun x => x.1.enc) = p.2.map Rec.enc := by
  obtain ⟨M, g, l, hi, hz, hr⟩ := h
  refine ⟨M ++ [(g, l)], by rw [hi.segs]; simp, hr, fun p hp => ?_⟩
  have hf := hi.file p hp
  have hpm : p.1 ∈ s.segs := by
    rw [hi.segs]
    rcases List.mem_append.1 hp with hp | hp
    · exact List.mem_append_left _ (List.mem_map_of_mem hp)
    · rw [List.mem_singleton.1 hp]; simp
  have hb := (ho.seg _ hpm).1
  have ht : s.txt p.1 = rowS p.2 := by
    unfold Sto.txt
    rw [read_hasD ho.dsk.srt hf.has]
  have e := (scan_row p.2 p.1.base (by simp [offN]; omega) hf.why hf.num).1
  rw [ht]
  conv => rhs; rw [← e]
  rw [List.map_map]; rfl
def seekV (R : List Rec) (off : Int) : V := match R.find? (fun r => decide (r.at_ = off)) with
  | some r => .tup [(true, r.enc.map .d), (false, [.d (.i .i64 0)])]
  | none => .tup [(true, [.d (.i .i64 0), .d (.i .i64 0), .d (.s [])]), (false, [.d (.i .i64 11)])]
theorem seek_no {r : Rec} {R : List Rec} {off : Int} (h : r.at_ ≠ off) : seekV (r :: R) off = seekV R off := by
  unfold seekV; rw [List.find?_cons_of_neg (by simpa using h)]
theorem seek_yes {r : Rec} {R : List Rec} {off : Int} (h : r.at_ = off) : seekV (r :: R) off = .tup [(true, r.enc.map .d), (false, [.d (.i .i64 0)])] := by
  unfold seekV; rw [List.find?_cons_of_pos (by simpa using h)]
theorem recs_cons (N : List SR) (i : Nat) (h : i < N.length) : recsM (N.drop i) = N[i].2 ++ recsM (N.drop (i + 1)) := by
  rw [List.drop_eq_getElem_cons h]; rfl
set_option maxRecDepth 8000 in
theorem rread_sto {k u : Nat} {f seg : Int} (s : Sto) (R : List Rec) (h : okS k u s) (hh : Hold f seg s R) (hk : k ≤ 800000) (hu : u ≤ 1000000) (hR : R.length ≤ 1000000) (off : Int) (hf : 0 ≤ f) : call 19 [.agg s.l, vi off] [] = some (readT s off, []) := by
  obtain ⟨N, n1, n2, n3⟩ := hold_all h hh
  have hall := fun g hg => all_spec s h hk hu g hg
  have hfl := hh.floor
  have hnx := hh.next
  have hlen := h.len
  have hfin : 0 ≤ off → off < s.next → readT s off = seekV R off := by
    intro h1 h2
    by_cases c : off < f
    · unfold readT
      rw [if_neg (by omega), if_pos (by omega)]
      unfold seekV
      have e : R.find? (fun r => decide (r.at_ = off)) = none := by
        rw [List.find?_eq_none]
        intro r hr
        obtain ⟨i, hi, rfl⟩ := List.getElem_of_mem hr
        have := (read_hold h hh i hi).1
        simp only [decide_eq_true_eq]; omega
      rw [e]
    · have hi : (off - f).toNat < R.length := by omega
      obtain ⟨r1, r2, r3⟩ := read_hold h hh _ hi
      have e0 : f + (((off - f).toNat : Nat) : Int) = off := by omega
      rw [e0] at r3
      rw [r3]
      unfold seekV
      have hnum : numB f R := fun j hj => (read_hold h hh j hj).1
      have e := find_num hnum _ hi
      rw [e0] at e
      rw [e]
  have hcell : s.l = [.d (.l (s.disk.files.map Fil.enc)), .d (.i .i64 s.disk.cap), .d (.b s.disk.armed), .d (.i .i64 s.disk.left), .d (.b s.disk.down), .d (.i .i64 s.ver), .d (.l (s.segs.map Seg.enc)), .d (.i .i64 s.next), .d (.i .i64 s.sure), .d (.i .i64 s.size), .d (.i .u32 s.sum)] := rfl
  apply enterS s19 rfl
  rw [hcell] at hall ⊢
  by_cases c1 : off < 0
  · have e : readT s off = .tup [(true, [.d (.i .i64 0), .d (.i .i64 0), .d (.s [])]), (false, [.d (.i .i64 6)])] := by unfold readT; rw [if_pos (.inl c1)]; rfl
    rw [e]
    (simp (disch:=first|decide|omega|(intros;exact Eq.trans rfl rfl)|(simp only[puri];done)) only [wkf, a19, c1, go_sem, seval, dis])
    try simp [trim]
  · by_cases c2 : s.next ≤ off
    · have e : readT s off = .tup [(true, [.d (.i .i64 0), .d (.i .i64 0), .d (.s [])]), (false, [.d (.i .i64 6)])] := by unfold readT; rw [if_pos (.inr c2)]; rfl
      rw [e]
      (simp (disch:=first|decide|omega|(intros;exact Eq.trans rfl rfl)|(simp only[puri];done)) only [wkf, a19, c1, c2, go_sem, seval, dis])
      try simp [trim]
    · rw [hfin (by omega) (by omega)]
      obtain ⟨Z, hZ⟩ : ∃ Z : V, Z = seekV R off := ⟨_, rfl⟩
      rw [← hZ]
      (simp (disch:=first|decide|omega|(intros;exact Eq.trans rfl rfl)|(simp only[puri];done)) only [wkf, a19, c1, c2, go_sem, seval, dis])
      have hNl : N.length = s.segs.length := by rw [n1]; simp
      refine loop_boxM (m := 0) (σ := Nat) (fun i => N.length - i) (fun i => i ≤ N.length ∧ seekV R off = seekV (recsM (N.drop i)) off) (fun i => [vi off, V.one (.p 0 0), V.one (.p 1 0), vi i])
        (fun _ => [.cells [.d (.l (s.disk.files.map Fil.enc)), .d (.i .i64 s.disk.cap), .d (.b s.disk.armed), .d (.i .i64 s.disk.left), .d (.b s.disk.down), .d (.i .i64 s.ver), .d (.l (s.segs.map Seg.enc)), .d (.i .i64 s.next), .d (.i .i64 s.sure), .d (.i .i64 s.size), .d (.i .u32 s.sum)], .cells [.d (.i .i64 0), .d (.i .i64 0), .d (.s [])]]) (fun _ => (Z, [])) ?_ 0 ⟨Nat.zero_le _, by rw [List.drop_zero, n2]⟩ _ _ ?_
      rotate_left
      · exact (at_headM (by decide) (by simp only [List.map_cons, List.map_nil, go_sem, seval]; exact rfl) (by rfl) (by rfl) (by rfl))
      rintro i ⟨hi, hinv⟩ K hK
      by_cases c3 : i < N.length
      · have ci : (i : Int) < (s.segs.length : Int) := by omega
        have hsi : s.segs[i]? = some N[i].1 := by rw [n1]; simp [c3]
        have hmem : N[i].1 ∈ s.segs := List.mem_of_getElem? hsi
        have g1 : (s.segs.map Seg.enc)[i]? = some N[i].1.enc := by rw [List.getElem?_map, hsi]; rfl
        have g2 := hall _ hmem
        rw [n3 _ (List.getElem_mem c3)] at g2
        rw [recs_cons N i c3] at hinv
        have hpl : N[i].2.length ≤ 1000000 := by
          have e := recs_cons N i c3
          have : recsM N = recsM (N.take i) ++ recsM (N.drop i) := by rw [← recsM_app, List.take_append_drop]
          have e2 := congrArg List.length this
          rw [n2, List.length_append, e, List.length_append] at e2; omega
        generalize N[i] = p at *
        obtain ⟨⟨pb, pn, pz⟩, pl⟩ := p
        simp only [Seg.enc, List.map_cons, List.map_nil] at g1 g2 hinv hpl
        (simp (disch:=first|decide|omega|(intros;exact Eq.trans rfl rfl)|(simp only[puri];done)) only [wkf, a19_0, ci, g1, g2, go_sem, seval, dis])
        refine loop_boxM (m := 0) (σ := Nat) (fun j => pl.length - j) (fun j => j ≤ pl.length ∧ seekV R off = seekV (pl.drop j ++ recsM (N.drop (i + 1))) off) (fun j => [vi off, V.one (.p 0 0), V.one (.p 1 0), vi i, vl (pl.map Rec.enc), vi j])
          (fun _ => [.cells [.d (.l (s.disk.files.map Fil.enc)), .d (.i .i64 s.disk.cap), .d (.b s.disk.armed), .d (.i .i64 s.disk.left), .d (.b s.disk.down), .d (.i .i64 s.ver), .d (.l (s.segs.map Seg.enc)), .d (.i .i64 s.next), .d (.i .i64 s.sure), .d (.i .i64 s.size), .d (.i .u32 s.sum)], .cells [.d (.i .i64 0), .d (.i .i64 0), .d (.s [])]]) (fun _ => (Z, [])) ?_ 0 ⟨Nat.zero_le _, hinv⟩ _ _ ?_
        rotate_left
        · exact (at_headM (by decide) (by simp only [List.map_cons, List.map_nil, go_sem, seval]; exact rfl) (by rfl) (by rfl) (by rfl))
        rintro j ⟨hj, hinv2⟩ K2 hK2
        by_cases c4 : j < pl.length
        · have cj : (j : Int) < (pl.length : Int) := by omega
          have g3 : (pl.map Rec.enc)[j]? = some pl[j].enc := by simp [c4]
          rw [List.drop_eq_getElem_cons c4, List.cons_append] at hinv2
          generalize pl[j] = r at *
          by_cases c5 : r.at_ = off
          · rw [seek_yes c5] at hinv2
            rw [hinv2] at hZ
            obtain ⟨ra, rt, rd⟩ := r
            simp only [Rec.enc, List.map_cons, List.map_nil] at g3 c5 hZ
            (simp (disch:=first|decide|omega|(intros;exact Eq.trans rfl rfl)|(simp only[puri];done)) only [wkf, a19_1, cj, g3, c5, go_sem, seval, dis])
            rw [hZ]
            try simp [trim, c5]
          · rw [seek_no c5] at hinv2
            obtain ⟨ra, rt, rd⟩ := r
            simp only [Rec.enc, List.map_cons, List.map_nil] at g3 c5
            (simp (disch:=first|decide|omega|(intros;exact Eq.trans rfl rfl)|(simp only[puri];done)) only [wkf, a19_1, cj, g3, c5, go_sem, seval, dis])
            exact hK2 (j + 1) (by omega) ⟨by omega, hinv2⟩ _ _ (at_headM (by decide) (by simp only [List.map_cons, List.map_nil, go_sem, seval]; exact rfl) (by rfl) (by rfl) (by rfl))
        · have cj : ¬ (j : Int) < (pl.length : Int) := by omega
          rw [List.drop_of_length_le (by omega), List.nil_append] at hinv2
          (simp (disch:=first|decide|omega|(intros;exact Eq.trans rfl rfl)|(simp only[puri];done)) only [wkf, a19_1, cj, go_sem, seval, dis])
          exact hK (i + 1) (by omega) ⟨by omega, hinv2⟩ _ _ (at_headM (by decide) (by simp only [List.map_cons, List.map_nil, go_sem, seval]; exact rfl) (by rfl) (by rfl) (by rfl))
      · have ci : ¬ (i : Int) < (s.segs.length : Int) := by omega
        rw [List.drop_of_length_le (by omega)] at hinv
        have e : seekV (recsM []) off = .tup [(true, [.d (.i .i64 0), .d (.i .i64 0), .d (.s [])]), (false, [.d (.i .i64 11)])] := rfl
        rw [e] at hinv
        rw [hinv] at hZ
        (simp (disch:=first|decide|omega|(intros;exact Eq.trans rfl rfl)|(simp only[puri];done)) only [wkf, a19_0, ci, go_sem, seval, dis])
        rw [hZ]
        try simp [trim]
end Go.Proofs.YtijnkmjbfekajaaGreat

namespace Go.Proofs.YtijnkmjbfekajaaGreat
open Go.Vi
set_option maxRecDepth 8000 in
theorem rfrom_sto {k u : Nat} {f seg : Int} (s : Sto) (R : List Rec) (h : okS k u s) (hh : Hold f seg s R) (hk : k ≤ 800000) (hu : u ≤ 1000000) (hR : R.length ≤ 1000000) (off bytes most : Int) (hf : 0 ≤ f) (hb : 0 ≤ bytes ∧ bytes ≤ 4611686018427387904) :
    call 21 [.agg s.l, vi off, vi bytes, vi most] [] = some (vl ((fromT s f R off bytes most).map Rec.enc), []) := by
  have q1 := rfloor_spec s
  have hfl := hh.floor
  rw [hfl] at q1
  unfold fromT
  rw [hfl]
  have hnx := hh.next
  have hsu := hh.sure
  have hcell : s.l = [.d (.l (s.disk.files.map Fil.enc)), .d (.i .i64 s.disk.cap), .d (.b s.disk.armed), .d (.i .i64 s.disk.left), .d (.b s.disk.down), .d (.i .i64 s.ver), .d (.l (s.segs.map Seg.enc)), .d (.i .i64 s.next), .d (.i .i64 s.sure), .d (.i .i64 s.size), .d (.i .u32 s.sum)] := rfl
  apply enterS s21 rfl
  by_cases c0 : off < f
  · rw [if_pos c0]
    rw [hcell] at q1 ⊢
    (simp (disch:=first|decide|omega|(intros;exact Eq.trans rfl rfl)|(simp only[puri];done)) only [wkf, a21, q1, c0, go_sem, seval, dis])
    try simp [trim]
  · rw [if_neg c0]
    have hrd : ∀ i (hi : i < R.length), call 19 [.agg s.l, vi (f + i)] [] = some (.tup [(true, R[i].enc.map .d), (false, [.d (.i .i64 0)])], []) ∧ whyF R[i] = 0 := by
      intro i hi
      obtain ⟨_, r2, r3⟩ := read_hold h hh i hi
      have r4 := rread_sto s R h hh hk hu hR (f + i) hf
      rw [r3] at r4
      exact ⟨r4, r2⟩
    have hle : (R.take (s.sure - f).toNat).length = (s.sure - f).toNat := by rw [List.length_take]; omega
    have hRg : ∀ i (hi : i < ((R.take (s.sure - f).toNat).drop (off - f).toNat).length), ∃ hj : (off - f).toNat + i < R.length, R[(off - f).toNat + i] = ((R.take (s.sure - f).toNat).drop (off - f).toNat)[i] := by
      intro i hi
      rw [List.length_drop, List.length_take] at hi
      refine ⟨by omega, ?_⟩
      rw [List.getElem_drop, List.getElem_take]
    have hRSl : ((R.take (s.sure - f).toNat).drop (off - f).toNat).length = (s.sure - f).toNat - (off - f).toNat := by rw [List.length_drop, hle]
    generalize ((R.take (s.sure - f).toNat).drop (off - f).toNat) = RS at *
    obtain ⟨Z, hZ⟩ : ∃ Z : V, Z = vl ((fromF RS bytes most).map Rec.enc) := ⟨_, rfl⟩
    rw [← hZ]
    rw [hcell] at q1 hrd ⊢
    (simp (disch:=first|decide|omega|(intros;exact Eq.trans rfl rfl)|(simp only[puri];done)) only [wkf, a21, q1, c0, go_sem, seval, dis])
    refine loop_boxM (m := 0) (σ := Nat × Int) (fun t => RS.length - t.1) (fun t => t.1 ≤ RS.length ∧ (0 ≤ t.2 ∧ t.2 ≤ bytes) ∧ (t.1 = 0 ∨ t.1 ≤ most) ∧ fromF RS bytes most = RS.take t.1 ++ fromF (RS.drop t.1) (bytes - t.2) (most - t.1)) (fun t => [vi bytes, vi most, V.one (.p 0 0), V.one (.sl 1 3 0 t.1), vi t.2, vi (off + t.1)])
      (fun t => [.cells [.d (.l (s.disk.files.map Fil.enc)), .d (.i .i64 s.disk.cap), .d (.b s.disk.armed), .d (.i .i64 s.disk.left), .d (.b s.disk.down), .d (.i .i64 s.ver), .d (.l (s.segs.map Seg.enc)), .d (.i .i64 s.next), .d (.i .i64 s.sure), .d (.i .i64 s.size), .d (.i .u32 s.sum)], .arr 3 ((RS.take t.1).map Rec.enc) 0]) (fun _ => (Z, [])) ?_ (0, 0) ⟨Nat.zero_le _, ⟨Int.le_refl _, hb.1⟩, .inl rfl, by simp⟩ _ _ ?_
    rotate_left
    · have e : off + ((0 : Nat) : Int) = off := by omega
      simp only [e, List.take_zero, List.map_nil]
      exact (at_headM (by decide) (by simp only [List.map_cons, List.map_nil, go_sem, seval]; exact rfl) (by rfl) (by rfl) (by rfl))
    rintro ⟨i, n⟩ ⟨hi, hnn, him, hinv⟩ K hK
    simp only at hi hnn him hinv ⊢
    have hQl : ((RS.take i).map Rec.enc).length = i := by simp; omega
    have hQt : ((RS.take i).map Rec.enc).take i = (RS.take i).map Rec.enc := List.take_of_length_le (by omega)
    by_cases c1 : off + i < s.sure
    · by_cases c2 : (i : Int) < most
      · have hlr : i < RS.length := by omega
        obtain ⟨hj, hje⟩ := hRg i hlr
        obtain ⟨r4, r2⟩ := hrd _ hj
        have e0 : f + (((off - f).toNat + i : Nat) : Int) = off + (i : Int) := by omega
        rw [e0] at r4
        rw [hje] at r4 r2
        have hfit := why_fit.1 r2
        have hro : RS[i].ok := ⟨by have := hfit.a0; have := hfit.a1; omega, by have := hfit.t0; have := hfit.t1; omega, by have := hfit.d; omega⟩
        have g8 := refSizeRec_spec RS[i] hro
        have hz := sizeR_le (r := RS[i])
        have hbs := fromF_drop RS i (bytes - n) (most - (i : Int)) hlr
        rw [if_neg (by omega)] at hbs
        by_cases c4 : bytes < n + sizeR RS[i]
        · rw [if_pos (by omega)] at hbs
          rw [hbs, List.append_nil] at hinv
          rw [hinv] at hZ
          generalize RS[i] = r at *
          obtain ⟨ra, rt, rd⟩ := r
          generalize (RS.take i).map Rec.enc = Q at *
          simp only [Rec.enc, List.map_cons, List.map_nil] at r4 g8
          (simp (disch:=first|decide|omega|(intros;exact Eq.trans rfl rfl)|(simp only[puri];done)) only [wkf, a21_0, c1, c2, r4, g8, c4, hQl, go_sem, seval, dis])
          rw [hZ]
          try simp [trim, hQt]
        · rw [if_neg (by omega)] at hbs
          rw [hbs] at hinv
          have htk : RS.take i ++ [RS[i]] = RS.take (i + 1) := by rw [← List.take_succ_eq_append_getElem hlr]
          have hK3 := hK (i + 1, n + sizeR RS[i]) (by simp only []; omega) ⟨by simp only []; omega, by simp only []; omega, .inr (by simp only []; omega), by
            simp only []
            rw [hinv, ← htk, List.append_assoc, List.singleton_append]
            have e2 : most - (i : Int) - 1 = most - ((i + 1 : Nat) : Int) := by omega
            have e3 : bytes - n - (sizeR RS[i] : Int) = bytes - (n + (sizeR RS[i] : Int)) := by omega
            rw [e2, e3]⟩
          simp only [] at hK3
          rw [← htk, List.map_append] at hK3
          have e3 : off + ((i + 1 : Nat) : Int) = off + (i : Int) + 1 := by omega
          rw [e3] at hK3
          have hov : off + (i : Int) ≤ 4000000000000 := by have := h.next; omega
          have hov2 : 0 ≤ off + (i : Int) := by omega
          have hil : i ≤ 1000000 := by omega
          clear hinv hbs htk hZ
          generalize RS[i] = r at *
          obtain ⟨ra, rt, rd⟩ := r
          generalize (RS.take i).map Rec.enc = Q at *
          simp only [Rec.enc, List.map_cons, List.map_nil] at r4 g8 hK3
          (simp (disch:=first|decide|omega|(intros;exact Eq.trans rfl rfl)|(simp only[puri];done)) only [wkf, a21_0, c1, c2, r4, g8, c4, hQl, go_sem, seval, dis])
          exact hK3 _ _ (at_headM (by decide) (by simp only [List.map_cons, List.map_nil, go_sem, seval]; exact rfl) (by rfl) (by rfl) (by rfl))
      · have hend : fromF (RS.drop i) (bytes - n) (most - (i : Int)) = [] := by
          rcases Nat.lt_or_ge i RS.length with h3 | h3
          · rw [fromF_drop _ _ _ _ h3, if_pos (by omega)]
          · exact fromF_end _ _ _ _ h3
        rw [hend, List.append_nil] at hinv
        rw [hinv] at hZ
        generalize (RS.take i).map Rec.enc = Q at *
        (simp (disch:=first|decide|omega|(intros;exact Eq.trans rfl rfl)|(simp only[puri];done)) only [wkf, a21_0, c1, c2, hQl, go_sem, seval, dis])
        rw [hZ]
        try simp [trim, hQt]
    · rw [fromF_end _ _ _ _ (by omega), List.append_nil] at hinv
      rw [hinv] at hZ
      generalize (RS.take i).map Rec.enc = Q at *
      (simp (disch:=first|decide|omega|(intros;exact Eq.trans rfl rfl)|(simp only[puri];done)) only [wkf, a21_0, c1, hQl, go_sem, seval, dis])
      rw [hZ]
      try simp [trim, hQt]
end Go.Proofs.YtijnkmjbfekajaaGreat

namespace Go.Proofs.YtijnkmjbfekajaaGreat
open Go.Vi
theorem fromF_len : ∀ (R : List Rec) (b m : Int), (fromF R b m).length ≤ R.length
  | [], _, _ => Nat.le_refl _
  | r :: R, b, m => by
    simp only [fromF]
    split
    · simp
    · split
      · simp
      · have := fromF_len R (b - sizeR r) (m - 1)
        simp only [List.length_cons]; omega
set_option maxRecDepth 20000 in
theorem reads_law1 (seg : Nat) (hs : seg < 256) (l : List Act) (hl : l.length ≤ 9223372036854775807) (hok : ∀ a ∈ l, a.ok) (off : Int) (h0 : Nat) (hh0 : h0 < 65536) (h1 : Nat) (hh1 : h1 < 65536) :
    call 4 [.agg [.d (.i .u8 (seg : Nat)), .d (.l (l.map Act.enc)), .d (.i .i64 off), .d (.i .u16 (h0 : Nat)), .d (.i .u16 (h1 : Nat))]] [] = some (vb true, []) := by
  have q1 := short12_spec l hl
  apply enterS s4 rfl
  have q2 := awake12_spec
  cases c0 : shortF l with
  | false =>
    rw [c0] at q1
    (simp (disch:=first|decide|omega|(intros;exact Eq.trans rfl rfl)|(simp only[puri];done)) only [wkf, a4, q1, q2, go_sem, seval, dis, vdr, A.kind, A.xs, optX])
    try simp [trim]
  | true =>
    rw [c0] at q1
    have hlen : l.length ≤ 40 := by
      unfold shortF at c0
      simp only [Bool.and_eq_true, decide_eq_true_eq] at c0
      exact c0.1
    have q4 := rnew_spec d0 d0_ok (by decide) (by decide)
    obtain ⟨o1, hd1, n1, s1⟩ := createT_ok d0_ok d0_new
    have hd1 := hd1 (20 + seg) (by omega)
    have hcell : ∀ s : Sto, s.l = [.d (.l (s.disk.files.map Fil.enc)), .d (.i .i64 s.disk.cap), .d (.b s.disk.armed), .d (.i .i64 s.disk.left), .d (.b s.disk.down), .d (.i .i64 s.ver), .d (.l (s.segs.map Seg.enc)), .d (.i .i64 s.next), .d (.i .i64 s.sure), .d (.i .i64 s.size), .d (.i .u32 s.sum)] := fun _ => rfl
    have hd0 : d0.l = [.d (.l []), .d (.i .i64 0), .d (.b false), .d (.i .i64 0), .d (.b false)] := rfl
    generalize createT d0 = r0 at *
    obtain ⟨st0, e0⟩ := r0
    simp only [stoV, hcell, hd0] at q4 o1 hd1 n1 s1
    (simp (disch:=first|decide|omega|(intros;exact Eq.trans rfl rfl)|(simp only[puri];done)) only [wkf, a4, q1, q4, go_sem, seval, dis, vdr, A.kind, A.xs, optX])
    refine loop_boxM (m := 0) (σ := Nat × Sto × List Rec) (fun t => l.length - t.1) (fun t => t.1 ≤ l.length ∧ okS (10 + 2 * t.1) (2000 + 1000 * t.1) t.2.1 ∧ Hold 0 (20 + seg) t.2.1 t.2.2 ∧ t.2.2.length ≤ t.1) (fun t => [vk .u8 (seg : Nat), vl (l.map Act.enc), vi off, V.one (.p 0 0), V.one (.p 1 0), vi t.1])
      (fun t => [.cells [.d (.i .u16 (h0 : Nat)), .d (.i .u16 (h1 : Nat))], .cells [.d (.l (t.2.1.disk.files.map Fil.enc)), .d (.i .i64 t.2.1.disk.cap), .d (.b t.2.1.disk.armed), .d (.i .i64 t.2.1.disk.left), .d (.b t.2.1.disk.down), .d (.i .i64 t.2.1.ver), .d (.l (t.2.1.segs.map Seg.enc)), .d (.i .i64 t.2.1.next), .d (.i .i64 t.2.1.sure), .d (.i .i64 t.2.1.size), .d (.i .u32 t.2.1.sum)]]) (fun _ => (vb true, [])) ?_ (0, st0, []) ⟨Nat.zero_le _, o1.up (by omega) (by omega), hd1, Nat.le_refl _⟩ _ _ ?_
    rotate_left
    · exact (at_headM (by decide) (by simp only [List.map_cons, List.map_nil, go_sem, seval]; exact rfl) (by rfl) (by rfl) (by rfl))
    rintro ⟨i, s, R⟩ ⟨hi, ho, hh, hRl⟩ K hK
    simp only at hi ho hh hRl ⊢
    by_cases c1 : i < l.length
    · have g1 : (l.map Act.enc)[i]? = some l[i].enc := by simp [c1]
      have ha := hok _ (List.getElem_mem c1)
      have g2 := want_spec s ho (by omega) (by omega) (20 + seg) l[i] ha
      have o2 := doT_ok ho (20 + seg) l[i] ha
      obtain ⟨_, _, _, d4, d5⟩ := do_hold ho hh (by omega) l[i]
      have hx : ∃ R2 : List Rec, R2.length ≤ i + 1 ∧ Hold 0 (20 + seg) (doT s (20 + seg) l[i]).1 R2 := by
        by_cases hc : l[i].kind ≠ 1 ∧ l[i].kind ≠ 2 ∧ l[i].kind ≠ 3 ∧ (doT s (20 + seg) l[i]).2 = 0
        · exact ⟨_, by simp; omega, d4 hc⟩
        · exact ⟨R, by omega, d5 hc⟩
      obtain ⟨R2, hR2, hx⟩ := hx
      generalize doT s (20 + seg) l[i] = r at *
      obtain ⟨x, e⟩ := r
      have hc1 : (i : Int) < (l.length : Int) := by omega
      generalize l[i] = a at *
      obtain ⟨ak, an, ad⟩ := a
      simp only [stoV, hcell, Act.enc, List.map_cons, List.map_nil] at g1 g2 o2 hx ⊢
      have hK2 := hK (i + 1, x, R2) (by simp only []; omega) ⟨by simp only []; omega, o2.up (by simp only []; omega) (by simp only []; omega), hx, hR2⟩
      (simp (disch:=first|decide|omega|(intros;exact Eq.trans rfl rfl)|(simp only[puri];done)) only [wkf, a4_0, hc1, g1, g2, go_sem, seval, dis])
      exact hK2 _ _ (at_headM (by decide) (by simp only [List.map_cons, List.map_nil, go_sem, seval]; exact rfl) (by rfl) (by rfl) (by rfl))
    · have hc1 : ¬ (i : Int) < (l.length : Int) := by omega
      have r1 := read_sto s ho (by omega) (by omega) off
      have r2 := rread_sto s R ho hh (by omega) (by omega) (by omega) off (by decide)
      have r3 := from_sto s R ho hh (by omega) (by omega) (by omega) off h0 h1 (by decide) (by omega)
      have r4 := rfrom_sto s R ho hh (by omega) (by omega) (by omega) off h0 h1 (by decide) (by omega)
      have hFl : (fromT s 0 R off h0 h1).length ≤ 1000000 := by
        unfold fromT
        split
        · simp
        · have := fromF_len ((R.take (s.sure - 0).toNat).drop (off - 0).toNat) h0 h1
          simp only [List.length_drop, List.length_take] at this; omega
      have r5 := same_spec (fromT s 0 R off h0 h1) (fromT s 0 R off h0 h1) (by omega)
      rw [decide_eq_true rfl] at r5
      generalize fromT s 0 R off h0 h1 = FR at *
      have hrt : ∃ (r : Rec) (e : Int), readT s off = .tup [(true, r.enc.map .d), (false, [.d (.i .i64 e)])] := by
        unfold readT
        split
        · exact readL_two _ _
        · split
          · exact ⟨⟨0, 0, []⟩, 11, rfl⟩
          · exact readL_two _ _
      obtain ⟨r, e, hre⟩ := hrt
      rw [hre] at r1 r2
      have hq := Rec.eqs r r
      rw [decide_eq_true rfl] at hq
      obtain ⟨ra, rt, rd⟩ := r
      have hee : (e == e) = true := by simp
      simp only [Rec.enc, hcell, List.map_cons, List.map_nil] at r1 r2 r3 r4 hq
      generalize FR.map Rec.enc = FQ at *
      (simp (disch:=first|decide|omega|(intros;exact Eq.trans rfl rfl)|(simp only[puri];done)) only [wkf, a4_0, hc1, q2, r1, r2, r3, r4, hq, hee, r5, go_sem, seval, dis])
      try simp [trim]
end Go.Proofs.YtijnkmjbfekajaaGreat

namespace Go.Proofs.YtijnkmjbfekajaaGreat
open Go.Vi
theorem storeReads_pure (xs : List V) (h : wfAs [(true, [.i .u8, .l [.i .i64, .i .i64, .s], .i .i64, .i .u16, .i .u16])] xs) : call 4 xs [] = some (vb true, []) := by
  simp only [wfAs, wfA] at h
  obtain ⟨_, _, rfl, ⟨d, rfl, hd⟩, rfl⟩ := h
  simp only [wfRow, wfT] at hd
  obtain ⟨_, _, e1, ⟨b, rfl, a1, a2⟩, _, _, e2, ⟨rows, rfl, hl, hr⟩, _, _, e3, ⟨o, rfl, b1, b2⟩, _, _, e4, ⟨p, rfl, c1, c2⟩, _, _, e5, ⟨q, rfl, d1, d2⟩, rfl⟩ := hd
  subst e1 e2 e3 e4 e5
  obtain ⟨l, rfl, ha⟩ := rows_map Act.of rows hr
  have a1' : 0 ≤ b := Int.le_trans (by decide) a1
  have a2' : b < 256 := Int.lt_of_le_of_lt a2 (by decide)
  have c1' : 0 ≤ p := Int.le_trans (by decide) c1
  have c2' : p < 65536 := Int.lt_of_le_of_lt c2 (by decide)
  have d1' : 0 ≤ q := Int.le_trans (by decide) d1
  have d2' : q < 65536 := Int.lt_of_le_of_lt d2 (by decide)
  have eb : ((b.toNat : Nat) : Int) = b := Int.toNat_of_nonneg a1'
  have ep : ((p.toNat : Nat) : Int) = p := Int.toNat_of_nonneg c1'
  have eq : ((q.toNat : Nat) : Int) = q := Int.toNat_of_nonneg d1'
  have := reads_law1 b.toNat (by omega) l (by simpa using hl) ha o p.toNat (by omega) q.toNat (by omega)
  rw [eb, ep, eq] at this
  exact this
end Go.Proofs.YtijnkmjbfekajaaGreat

