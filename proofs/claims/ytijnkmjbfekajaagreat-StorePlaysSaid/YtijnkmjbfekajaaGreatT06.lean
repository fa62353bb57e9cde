import Derived.Test.YtijnkmjbfekajaaGreatT05
import Derived.Test.YtijnkmjbfekajaaGreatVid
set_option linter.unusedSimpArgs false
set_option linter.unusedVariables false
namespace Go.Proofs.YtijnkmjbfekajaaGreat
open Go.Vi
theorem rlast_spec (s : Sto) (g : Seg) (hl : s.segs.length ≤ 1000000) (hg : s.segs.getLast? = some g) (hb : 0 ≤ g.base ∧ g.base ≤ 1099511627776) : call 74 [.agg s.l] [] = some (vs (fileN g.base), []) := by
  have q := rseg_spec hb
  apply enterS s74 rfl
  obtain ⟨⟨fl, cp, ar, lf, dn⟩, ver, segs, next, sure, size, sum⟩ := s
  simp only at hg hl
  have h0 : 0 < segs.length := by cases segs <;> simp_all
  have h2 : ((segs.length : Int) - 1).toNat = segs.length - 1 := by omega
  have g1 : (segs.map Seg.enc)[segs.length - 1]? = some g.enc := by rw [List.getElem?_map, ← List.getLast?_eq_getElem?, hg]; rfl
  generalize fileN g.base = N at *
  obtain ⟨gb, gn, gz⟩ := g
  simp only [Seg.enc] at g1 q
  (simp (disch:=first|decide|omega|(intros;exact Eq.trans rfl rfl)|(simp only[puri];done)) only [a74, Sto.l, Dsk.l, h2, g1, q, go_sem, seval, dis])
  try simp [trim]
theorem rsync_sto {k u : Nat} (s : Sto) (h : okS k u s) (hk : k ≤ 800000) (hu : u ≤ 800000000000) : call 38 [.agg s.l] [] = some (stoV (syncT s), []) := by
  have q1 := rlast_spec s s.last (by have := h.len; omega) (last_q h.len.1) (h.seg _ (last_mem h.len.1)).1
  have q3 := rsync_spec s.disk (h.dsk.ok (by omega) (by omega)) (fileN s.last.base)
  apply enterS s38 rfl
  unfold syncT
  simp only []
  generalize chgF s.disk (synR s.disk.files (fileN s.last.base)) = r at *
  generalize fileN s.last.base = N at *
  obtain ⟨⟨fl, cp, ar, lf, dn⟩, ver, segs, next, sure, size, sum⟩ := s
  obtain ⟨⟨f2, cp2, ar2, lf2, dn2⟩, e2⟩ := r
  simp only [Sto.l, Dsk.l, dskV, List.cons_append, List.nil_append] at q1 q3 ⊢
  by_cases c : e2 = 0
  · subst c
    (simp (disch:=first|decide|omega|(intros;exact Eq.trans rfl rfl)|(simp only[puri];done)) only [wkf, a38, q1, q3, stoV, Sto.l, Dsk.l, go_sem, seval, dis, vdr, A.kind, A.xs, optX])
    try simp [trim]
  · (simp (disch:=first|decide|omega|(intros;exact Eq.trans rfl rfl)|(simp only[puri];done)) only [wkf, a38, q1, q3, c, stoV, Sto.l, Dsk.l, go_sem, seval, dis, vdr, A.kind, A.xs, optX])
    try simp [trim, c]
theorem rnew_eq (d : Dsk) : createT d = (let c := chgF d (crtR d.files (fileN 0)); if c.2 ≠ 0 then (⟨c.1, 0, [], 0, 0, 0, 0⟩, c.2) else
    let w := swapS ⟨1, [0], 0, 0⟩ (c.1, 0); if w.2 ≠ 0 then (⟨w.1, 0, [], 0, 0, 0, 0⟩, w.2) else (⟨w.1, 1, [⟨0, 0, 0⟩], 0, 0, 0, 0⟩, 0)) := by
  unfold createT
  have e0 : crtS (fileN 0) (d, 0) = chgF d (crtR d.files (fileN 0)) := stp_ye _ _
  rw [e0]
  simp only []
  generalize chgF d (crtR d.files (fileN 0)) = c
  by_cases h : c.2 = 0
  · rw [if_pos h, if_neg (show ¬ (c.2 ≠ 0) from by simp [h]), ← pair_eta h]
    generalize swapS ⟨1, [0], 0, 0⟩ c = w
    by_cases h2 : w.2 = 0
    · simp [h2]
    · simp [h2]
  · simp [h]
set_option maxRecDepth 8000 in
theorem rnew_spec {k u : Nat} (d : Dsk) (hd : okN k u d) (hk : k ≤ 800000) (hu : u ≤ 800000000000) : call 9 [.agg d.l] [] = some (stoV (createT d), []) := by
  rw [rnew_eq]
  have q1 := rseg_spec (n := 0) ⟨by decide, by decide⟩
  have q2 := rcreate_spec d (hd.ok (by omega) (by omega)) (fileN 0)
  have k1 : okN (k + 1) u (chgF d (crtR d.files (fileN 0))).1 := by
    have := crt_ok (s := (d, 0)) hd (fileN 0)
    exact this
  have q3 := fun dd : Dsk => rman_spec ⟨dd, 1, [⟨0, 0, 0⟩], 0, 0, 0, 0⟩ (by simp)
  simp only []
  generalize chgF d (crtR d.files (fileN 0)) = c at *
  have q3 := q3 c.1
  have q4 := rswap_spec c.1 k1 (by omega) (by omega) ⟨1, [0], 0, 0⟩ ⟨by simp, by simp⟩
  generalize swapS ⟨1, [0], 0, 0⟩ (c.1, 0) = w at *
  apply enterS s9 rfl
  generalize fileN 0 = N at *
  obtain ⟨fl, cp, ar, lf, dn⟩ := d
  obtain ⟨⟨f1, cp1, ar1, lf1, dn1⟩, e1⟩ := c
  obtain ⟨⟨f3, cp3, ar3, lf3, dn3⟩, e3⟩ := w
  simp only [dskV, Dsk.l, Sto.l, Seg.enc, Sto.man, Man.l, List.cons_append, List.nil_append, List.map_cons, List.map_nil, eI] at q1 q2 q3 q4 ⊢
  by_cases c1 : e1 = 0
  · subst c1
    by_cases c3 : e3 = 0
    · subst c3
      (simp (disch:=first|decide|omega|(intros;exact Eq.trans rfl rfl)|(simp only[puri];done)) only [wkf, a9, q1, q2, ↓iso_callzA_e, czKA_a, splitS, allD, czR_some, q3, q4, go_sem, seval, dis, vdr, A.kind, A.xs, optX])
      try simp [trim, stoV, Sto.l, Dsk.l, Seg.enc]
    · (simp (disch:=first|decide|omega|(intros;exact Eq.trans rfl rfl)|(simp only[puri];done)) only [wkf, a9, q1, q2, ↓iso_callzA_e, czKA_a, splitS, allD, czR_some, q3, q4, c3, go_sem, seval, dis, vdr, A.kind, A.xs, optX])
      try simp [trim, stoV, Sto.l, Dsk.l, Seg.enc, c3]
  · (simp (disch:=first|decide|omega|(intros;exact Eq.trans rfl rfl)|(simp only[puri];done)) only [wkf, a9, q1, q2, c1, go_sem, seval, dis, vdr, A.kind, A.xs, optX])
    try simp [trim, stoV, Sto.l, Dsk.l, Seg.enc, c1]
end Go.Proofs.YtijnkmjbfekajaaGreat

namespace Go.Proofs.YtijnkmjbfekajaaGreat
open Go.Vi
def rrollD (s : Sto) : Dsk × Int :=
  let c := chgF s.disk (crtR s.disk.files (fileN s.next))
  if c.2 ≠ 0 then c else
    let w := swapS (rollX s).man (c.1, 0)
    if w.2 = 9 then (let r := chgF w.1 (delR w.1.files (fileN s.next)); if r.2 = 0 then (r.1, 9) else r) else w
theorem rrollD_eq (s : Sto) : rollD s = rrollD s := by
  unfold rollD rrollD
  have e0 : crtS (fileN s.next) (s.disk, 0) = chgF s.disk (crtR s.disk.files (fileN s.next)) := stp_ye _ _
  rw [e0]
  simp only []
  generalize chgF s.disk (crtR s.disk.files (fileN s.next)) = c
  by_cases h : c.2 = 0
  · rw [if_pos h, if_neg (show ¬ (c.2 ≠ 0) from by simp [h]), ← pair_eta h]
    generalize swapS (rollX s).man c = w
    unfold unlS
    have e1 : delS (fileN s.next) (w.1, 0) = chgF w.1 (delR w.1.files (fileN s.next)) := stp_ye _ _
    rw [e1]
    by_cases h2 : w.2 = 9
    · simp [h2]
    · simp [h2]
  · simp [h]
set_option maxRecDepth 8000 in
set_option maxHeartbeats 2000000 in
theorem rroll_spec {k u : Nat} (s : Sto) (h : okS k u s) (hk : k ≤ 800000) (hu : u ≤ 800000000000) : call 76 [.agg s.l] [] = some (stoV (rollT s), []) := by
  have q1 := rsync_sto s h hk hu
  have h1 := syncT_ok h
  have hsl : (syncT s).1.segs = s.segs := rfl
  apply enterS s76 rfl
  unfold rollT
  by_cases c0 : 64 ≤ s.segs.length
  · rw [if_pos c0]
    obtain ⟨⟨fl, cp, ar, lf, dn⟩, ver, segs, next, sure, size, sum⟩ := s
    simp only at c0
    have c1 : (64 : Int) ≤ segs.length := by omega
    (simp (disch:=first|decide|omega|(intros;exact Eq.trans rfl rfl)|(simp only[puri];done)) only [wkf, a76, c1, stoV, Sto.l, Dsk.l, go_sem, seval, dis])
    try simp [trim]
  · rw [if_neg c0]
    have c1 : ¬ (64 : Int) ≤ s.segs.length := by omega
    rw [← hsl] at c1
    generalize syncT s = r at *
    obtain ⟨s1, e1⟩ := r
    simp only at q1 h1 hsl c1 ⊢
    by_cases c2 : e1 = 0
    · subst c2
      rw [if_neg (by simp), rrollD_eq]
      have q2 := rseg_spec h1.next
      have q3 := rcreate_spec s1.disk (h1.dsk.ok (by omega) (by omega)) (fileN s1.next)
      have k1 : okN (k + 1) u (chgF s1.disk (crtR s1.disk.files (fileN s1.next))).1 := by
        have := crt_ok (s := (s1.disk, 0)) h1.dsk (fileN s1.next)
        exact this
      have hxl : (rollX s1).segs.length ≤ 1000000 := by have := h1.len; show (s1.segs ++ [_]).length ≤ _; simp; omega
      have q4 := fun d : Dsk => rman_spec { rollX s1 with disk := d } hxl
      unfold rrollD
      simp only []
      generalize chgF s1.disk (crtR s1.disk.files (fileN s1.next)) = c at *
      have q4 := q4 c.1
      have q5 := rswap_spec c.1 k1 (by omega) (by omega) (rollX s1).man ⟨by have := h1.len; show ((s1.segs ++ [_]).map _).length ≤ _; simp; omega, h1.sum⟩
      have k2 : okN (k + 1 + 1) (u + 800) (swapS (rollX s1).man (c.1, 0)).1 := swap_okN (s := (c.1, 0)) k1 _
      generalize swapS (rollX s1).man (c.1, 0) = w at *
      have q6 := rdelete_spec w.1 (k2.ok (by omega) (by omega)) (fileN s1.next)
      generalize chgF w.1 (delR w.1.files (fileN s1.next)) = t at *
      generalize fileN s1.next = N at *
      obtain ⟨⟨fl, cp, ar, lf, dn⟩, ver, segs, next, sure, size, sum⟩ := s
      obtain ⟨⟨fl1, cp1, ar1, lf1, dn1⟩, ver1, segs1, next1, sure1, size1, sum1⟩ := s1
      obtain ⟨⟨fl2, cp2, ar2, lf2, dn2⟩, e2⟩ := c
      obtain ⟨⟨fl3, cp3, ar3, lf3, dn3⟩, e3⟩ := w
      obtain ⟨⟨fl4, cp4, ar4, lf4, dn4⟩, e4⟩ := t
      simp only at hsl
      subst hsl
      have hver := h1.ver
      have hlen := h1.len
      simp only [dskV, Dsk.l, Sto.l, Sto.man, rollX, Man.l, stoV, List.cons_append, List.nil_append, List.map_cons, List.map_nil, List.map_append, Seg.enc] at q1 q2 q3 q4 q5 q6 c1 hver hlen ⊢
      have hok : okRows 3 (segs1.map Seg.enc) = true := okRows_map Seg.len segs1
      have hsm : (segs1.map Seg.enc).length = segs1.length := by simp
      obtain ⟨SQ, hSQ⟩ : ∃ SQ, segs1.map Seg.enc = SQ := ⟨_, rfl⟩
      rw [hSQ] at hok hsm q1 q4 ⊢
      have hsl2 : SQ.length ≤ 64 := by omega
      have htk : (SQ ++ [[D.i .i64 next1, D.i .i64 0, D.i .i64 0]]).take (segs1.length + 1) = SQ ++ [[D.i .i64 next1, D.i .i64 0, D.i .i64 0]] := List.take_of_length_le (by simp; omega)
      have c1' : ¬ (64 : Int) ≤ SQ.length := by omega
      rw [← hsm] at htk
      by_cases c3 : e2 = 0
      · subst c3
        by_cases c4 : e3 = 9
        · subst c4
          by_cases c5 : e4 = 0
          · subst c5
            (simp (disch:=first|decide|omega|(intros;exact Eq.trans rfl rfl)|(simp only[puri];done)) only [wkf, a76, q1, c1', hver, q2, q3, hok, htk, ↓iso_callzA_e, czKA_a, splitS, allD, czR_some, q4, q5, q6, go_sem, seval, dis, vdr, A.kind, A.xs, optX])
            try simp [trim, hSQ]
          · (simp (disch:=first|decide|omega|(intros;exact Eq.trans rfl rfl)|(simp only[puri];done)) only [wkf, a76, q1, c1', hver, q2, q3, hok, htk, ↓iso_callzA_e, czKA_a, splitS, allD, czR_some, q4, q5, q6, c5, go_sem, seval, dis, vdr, A.kind, A.xs, optX])
            try simp [trim, hSQ, c5]
        · by_cases c5 : e3 = 0
          · subst c5
            (simp (disch:=first|decide|omega|(intros;exact Eq.trans rfl rfl)|(simp only[puri];done)) only [wkf, a76, q1, c1', hver, q2, q3, hok, htk, ↓iso_callzA_e, czKA_a, splitS, allD, czR_some, q4, q5, go_sem, seval, dis, vdr, A.kind, A.xs, optX])
            simp [trim, hSQ, Seg.enc, c4]
          · (simp (disch:=first|decide|omega|(intros;exact Eq.trans rfl rfl)|(simp only[puri];done)) only [wkf, a76, q1, c1', hver, q2, q3, hok, htk, ↓iso_callzA_e, czKA_a, splitS, allD, czR_some, q4, q5, c4, c5, go_sem, seval, dis, vdr, A.kind, A.xs, optX])
            simp [trim, hSQ, c4, c5]
      · (simp (disch:=first|decide|omega|(intros;exact Eq.trans rfl rfl)|(simp only[puri];done)) only [wkf, a76, q1, c1', hver, q2, q3, c3, go_sem, seval, dis, vdr, A.kind, A.xs, optX])
        simp [trim, hSQ, c3]
    · rw [if_pos c2]
      obtain ⟨⟨fl, cp, ar, lf, dn⟩, ver, segs, next, sure, size, sum⟩ := s
      obtain ⟨⟨fl1, cp1, ar1, lf1, dn1⟩, ver1, segs1, next1, sure1, size1, sum1⟩ := s1
      simp only at hsl
      subst hsl
      simp only [Dsk.l, Sto.l, stoV, List.cons_append, List.nil_append] at q1 c1 ⊢
      (simp (disch:=first|decide|omega|(intros;exact Eq.trans rfl rfl)|(simp only[puri];done)) only [wkf, a76, q1, c1, c2, go_sem, seval, dis, vdr, A.kind, A.xs, optX])
      try simp [trim]
end Go.Proofs.YtijnkmjbfekajaaGreat

namespace Go.Proofs.YtijnkmjbfekajaaGreat
open Go.Vi
theorem putF_why {r : Rec} (h : whyF r ≠ 0) : (putF r).2 ≠ 0 := by unfold putF; rw [if_neg h]; exact h
set_option maxRecDepth 8000 in
set_option maxHeartbeats 2000000 in
theorem rappend_tail {k u : Nat} (s t : Sto) (h : okS k u s) (ht : okS k u t) (hn : t.next < 1099511627776) (hk : k ≤ 800000) (hu : u ≤ 800000000000) (seg : Int) (r : Rec) (tx : Txt) (hx : tx.length ≤ 90)
    (q0 : call 75 [.agg (r.enc.map .d)] [] = some (vb true, []))
    (q1 : call 77 [.agg (r.enc.map .d)] [] = some (.tup [(false, [.d (.s tx)]), (false, [.d (.i .i64 0)])], [])) (c2 : r.at_ = s.next) (c3 : s.next < 1099511627776)
    (hc : (seg ≤ s.last.size ∧ rollT s = (t, 0)) ∨ (¬ seg ≤ t.last.size ∧ t = s)) :
    call 39 [.agg s.l, vi seg, .agg (r.enc.map .d)] [] = some (stoV (putT t tx), []) := by
  have q3 := rroll_spec s h hk hu
  have q5 := rlast_spec t t.last (by have := ht.len; omega) (last_q ht.len.1) (ht.seg _ (last_mem ht.len.1)).1
  have q7 := rappend_spec t.disk (ht.dsk.ok (by omega) (by omega)) (fileN t.last.base) tx (by omega)
  have hsz := (ht.seg _ (last_mem ht.len.1)).2
  have hlen := ht.len
  have hlens := h.len
  have hnx := ht.next
  have hsp : t.segs.map Seg.enc = t.segs.dropLast.map Seg.enc ++ [t.last.enc] := by
    have hne : t.segs ≠ [] := by intro e; rw [e] at hlen; simp at hlen
    have e : t.segs = t.segs.dropLast ++ [t.segs.getLast hne] := (List.dropLast_concat_getLast hne).symm
    have e2 : t.last = t.segs.getLast hne := by unfold Sto.last; rw [List.getLastD_eq_getLast?, List.getLast?_eq_some_getLast hne]; rfl
    rw [e2]
    conv => lhs; rw [e]
    rw [List.map_append]; rfl
  have hsl : (s.segs.map Seg.enc)[s.segs.length - 1]? = some s.last.enc := by rw [List.getElem?_map, ← List.getLast?_eq_getElem?, last_q hlens.1]; rfl
  have hok := okRows_map Seg.len t.segs
  have hQ : (t.segs.dropLast.map Seg.enc).length = t.segs.length - 1 := by simp
  have hks : ((s.segs.length : Int) - 1) = ((s.segs.length - 1 : Nat) : Int) := by omega
  have hkt : ((t.segs.length : Int) - 1) = ((t.segs.length - 1 : Nat) : Int) := by omega
  unfold putT addSeg
  simp only []
  generalize chgF t.disk (appR t.disk.files t.disk.cap (fileN t.last.base) tx) = d at *
  generalize fileN t.last.base = N at *
  generalize t.last = g at *
  generalize s.last = g0 at *
  generalize rollT s = rr at *
  obtain ⟨b, n, z⟩ := g
  obtain ⟨b0, n0, z0⟩ := g0
  obtain ⟨⟨fl, cp, ar, lf, dn⟩, ver, segs, next, sure, size, sum⟩ := s
  obtain ⟨⟨fl1, cp1, ar1, lf1, dn1⟩, ver1, segs1, next1, sure1, size1, sum1⟩ := t
  obtain ⟨⟨fl2, cp2, ar2, lf2, dn2⟩, e2⟩ := d
  obtain ⟨at_, ti, da⟩ := r
  simp only [Rec.enc, Seg.enc, List.map_cons, List.map_nil, Sto.l, Dsk.l, dskV, List.cons_append, List.nil_append] at q0 q1 q3 q5 q7 c2 c3 hn hsz hlen hlens hnx hsp hsl hok hQ hks hkt hc ⊢
  subst c2
  have c3' : ¬ 1099511627776 ≤ at_ := by omega
  have hfin : ({ disk := ⟨fl2, cp2, ar2, lf2, dn2⟩, ver := ver1, segs := segs1.dropLast ++ [⟨b, n + 1, z + tx.length⟩], next := next1 + 1, sure := sure1, size := size1, sum := sum1 } : Sto).segs.map Seg.enc = segs1.dropLast.map Seg.enc ++ [[D.i .i64 b, D.i .i64 (n + 1), D.i .i64 (z + tx.length)]] := by simp [Seg.enc]
  generalize segs1.dropLast.map Seg.enc = Q at *
  have hml : (segs1.map Seg.enc).length = segs1.length := by simp
  have hl1 : segs1.length = Q.length + 1 := by omega
  have hkt1 : ((Q.length + 1 : Nat) : Int) - 1 = (Q.length : Nat) := by omega
  have hkt2 : ((Q.length : Nat) : Int) + 1 - 1 = (Q.length : Nat) := by omega
  have hat : ∀ x : List D, (Q ++ [x])[Q.length]? = some x := fun x => by simp
  have hst : ∀ x y : List D, (Q ++ [x]).set Q.length y = Q ++ [y] := fun x y => by simp
  rw [hsp] at hok q5
  have hql : Q.length ≤ 64 := by omega
  have htk : ∀ x : List D, (Q ++ [x]).take (Q.length + 1) = Q ++ [x] := fun x => List.take_of_length_le (by simp)
  apply enterS s39 rfl
  rcases hc with ⟨c4, rfl⟩ | ⟨c4, he⟩
  · simp only [stoV, Sto.l, Dsk.l, List.cons_append, List.nil_append] at q3
    rw [hsp] at q3
    by_cases c5 : e2 = 0
    · subst c5
      (simp (disch:=first|decide|omega|(intros;exact Eq.trans rfl rfl)|(simp only[puri];done)) only [wkf, a39, q0, q1, c3', hks, hsl, c4, q3, q5, q7, hok, hkt1, hkt2, hat, hst, hql, htk, List.length_append, List.length_cons, List.length_nil, Nat.zero_add, go_sem, seval, dis, vdr, A.kind, A.xs, optX])
      simp only [ne_eq, not_true_eq_false, if_false, stoV, Sto.l, Dsk.l, List.cons_append, List.nil_append]
      simp only [] at hfin
      rw [hfin]
    · (simp (disch:=first|decide|omega|(intros;exact Eq.trans rfl rfl)|(simp only[puri];done)) only [wkf, a39, q0, q1, c3', hks, hsl, c4, q3, q5, q7, c5, go_sem, seval, dis, vdr, A.kind, A.xs, optX])
      simp [trim, c5, stoV, Sto.l, Dsk.l, hsp]
  · simp only [Sto.mk.injEq, Dsk.mk.injEq] at he
    obtain ⟨⟨rfl, rfl, rfl, rfl, rfl⟩, rfl, rfl, rfl, rfl, rfl, rfl⟩ := he
    clear q3 hsl
    rw [hsp]
    by_cases c5 : e2 = 0
    · subst c5
      (simp (disch:=first|decide|omega|(intros;exact Eq.trans rfl rfl)|(simp only[puri];done)) only [wkf, a39, q0, q1, c3', c4, q5, q7, hok, hkt1, hkt2, hat, hst, hql, htk, List.length_append, List.length_cons, List.length_nil, Nat.zero_add, go_sem, seval, dis, vdr, A.kind, A.xs, optX])
      simp only [ne_eq, not_true_eq_false, if_false, stoV, Sto.l, Dsk.l, List.cons_append, List.nil_append]
      simp only [] at hfin
      rw [hfin]
    · (simp (disch:=first|decide|omega|(intros;exact Eq.trans rfl rfl)|(simp only[puri];done)) only [wkf, a39, q0, q1, c3', hkt1, hkt2, hat, c4, q5, q7, c5, List.length_append, List.length_cons, List.length_nil, Nat.zero_add, go_sem, seval, dis, vdr, A.kind, A.xs, optX])
      simp [trim, c5, stoV, Sto.l, Dsk.l, hsp]
set_option maxRecDepth 8000 in
theorem rappend_sto {k u : Nat} (s : Sto) (h : okS k u s) (hk : k ≤ 700000) (hu : u ≤ 700000000000) (seg : Int) (r : Rec) (hr : r.ok) : call 39 [.agg s.l, vi seg, .agg (r.enc.map .d)] [] = some (stoV (appT s seg r), []) := by
  have q1 := refPutRec_spec r hr
  have hpl := putF_len r
  have e1 : putR r = .tup [(false, [.d (.s (putF r).1)]), (false, [.d (.i .i64 (putF r).2)])] := by unfold putR putF; split <;> rfl
  rw [e1] at q1
  unfold appT
  by_cases c1 : whyF r = 0
  · have c1' : (putF r).2 = 0 := by unfold putF; rw [if_pos c1]
    rw [c1'] at q1
    have q0' := refRight_spec r
    rw [decide_eq_true c1] at q0'
    by_cases c2 : r.at_ = s.next
    · rw [if_neg (by simp [c2, c1'])]
      by_cases c3 : 1099511627776 ≤ s.next
      · rw [if_pos c3]
        obtain ⟨⟨fl, cp, ar, lf, dn⟩, ver, segs, next, sure, size, sum⟩ := s
        obtain ⟨at_, ti, da⟩ := r
        simp only [Rec.enc, List.map_cons, List.map_nil] at q0' c2 c3 ⊢
        subst c2
        apply enterS s39 rfl
        (simp (disch:=first|decide|omega|(intros;exact Eq.trans rfl rfl)|(simp only[puri];done)) only [wkf, a39, q0', c3, stoV, Sto.l, Dsk.l, go_sem, seval, dis])
        try simp [trim]
      · rw [if_neg c3]
        by_cases c4 : seg ≤ s.last.size
        · rw [if_pos c4]
          by_cases c5 : (rollT s).2 = 0
          · rw [if_neg (by simp [c5])]
            have hn : (rollT s).1.next = s.next := rollT_next s
            exact rappend_tail (k := k + 2) (u := u + 800) s (rollT s).1 (h.up (by omega) (by omega)) (rollT_ok h) (by rw [hn]; omega) (by omega) (by omega) seg r (putF r).1 hpl q0' q1 c2 (by omega) (.inl ⟨c4, by rw [← c5]⟩)
          · rw [if_pos c5]
            have q3 := rroll_spec s h (by omega) (by omega)
            have hsl : (s.segs.map Seg.enc)[s.segs.length - 1]? = some s.last.enc := by rw [List.getElem?_map, ← List.getLast?_eq_getElem?, last_q h.len.1]; rfl
            have hlens := h.len
            have hks : ((s.segs.length : Int) - 1) = ((s.segs.length - 1 : Nat) : Int) := by omega
            generalize rollT s = t at *
            generalize s.last = g at *
            obtain ⟨b, n, z⟩ := g
            obtain ⟨⟨fl, cp, ar, lf, dn⟩, ver, segs, next, sure, size, sum⟩ := s
            obtain ⟨⟨⟨fl1, cp1, ar1, lf1, dn1⟩, ver1, segs1, next1, sure1, size1, sum1⟩, e⟩ := t
            obtain ⟨at_, ti, da⟩ := r
            simp only [Rec.enc, Seg.enc, List.map_cons, List.map_nil, Sto.l, Dsk.l, stoV, List.cons_append, List.nil_append] at q0' q3 c2 c3 c4 c5 hsl hks hlens ⊢
            subst c2
            apply enterS s39 rfl
            (simp (disch:=first|decide|omega|(intros;exact Eq.trans rfl rfl)|(simp only[puri];done)) only [wkf, a39, q0', c3, hks, hsl, c4, q3, c5, go_sem, seval, dis])
            try simp [trim, c5]
        · rw [if_neg c4]
          exact rappend_tail (k := k) (u := u) s s h h (by omega) (by omega) (by omega) seg r (putF r).1 hpl q0' q1 c2 (by omega) (.inr ⟨c4, rfl⟩)
    · rw [if_pos (.inr c2)]
      obtain ⟨⟨fl, cp, ar, lf, dn⟩, ver, segs, next, sure, size, sum⟩ := s
      obtain ⟨at_, ti, da⟩ := r
      simp only [Rec.enc, List.map_cons, List.map_nil] at q0' c2 ⊢
      apply enterS s39 rfl
      (simp (disch:=first|decide|omega|(intros;exact Eq.trans rfl rfl)|(simp only[puri];done)) only [wkf, a39, q0', c2, stoV, Sto.l, Dsk.l, go_sem, seval, dis])
      try simp [trim]
  · rw [if_pos (.inl (putF_why c1))]
    have q0' := refRight_spec r
    rw [decide_eq_false c1] at q0'
    obtain ⟨⟨fl, cp, ar, lf, dn⟩, ver, segs, next, sure, size, sum⟩ := s
    obtain ⟨at_, ti, da⟩ := r
    simp only [Rec.enc, List.map_cons, List.map_nil] at q0' ⊢
    apply enterS s39 rfl
    (simp (disch:=first|decide|omega|(intros;exact Eq.trans rfl rfl)|(simp only[puri];done)) only [wkf, a39, q0', stoV, Sto.l, Dsk.l, go_sem, seval, dis])
    try simp [trim]
end Go.Proofs.YtijnkmjbfekajaaGreat

namespace Go.Proofs.YtijnkmjbfekajaaGreat
open Go.Vi
theorem ne_self (n : Int) : (n != n) = false := by simp
theorem neb_self (n : Bool) : (n != n) = false := by simp
set_option maxRecDepth 8000 in
theorem same06_spec (d : Dsk) (hl : d.files.length ≤ 1000000) : call 28 [.agg d.l, .agg d.l] [] = some (vb true, []) := by
  apply enterS s28 rfl
  obtain ⟨fl, cp, ar, lf, dn⟩ := d
  simp only at hl
  (simp (disch:=first|decide|omega|(intros;exact Eq.trans rfl rfl)|(simp only[puri];done)) only [wkf, a28, Dsk.l, ne_self, neb_self, go_sem, seval, dis])
  refine loop_boxM (m := 0) (σ := Nat) (fun i => fl.length - i) (fun i => i ≤ fl.length) (fun i => [V.one (.p 0 0), V.one (.p 1 0), vi i])
    (fun _ => [.cells [.d (.l (fl.map Fil.enc)), .d (.i .i64 cp), .d (.b ar), .d (.i .i64 lf), .d (.b dn)], .cells [.d (.l (fl.map Fil.enc)), .d (.i .i64 cp), .d (.b ar), .d (.i .i64 lf), .d (.b dn)]]) (fun _ => (vb true, [])) ?_ 0 (Nat.zero_le _) _ _ ?_
  rotate_left
  · exact (at_headM (by decide) (by simp only [List.map_cons, List.map_nil, go_sem, seval]; exact rfl) (by rfl) (by rfl) (by rfl))
  intro i hi R hR
  by_cases c : i < fl.length
  · have ci : (i : Int) < (fl.length : Int) := by omega
    have g1 : (fl.map Fil.enc)[i]? = some fl[i].enc := by simp [c]
    have hq := Fil.eqs fl[i] fl[i]
    rw [decide_eq_true rfl] at hq
    generalize fl[i] = f at *
    obtain ⟨fn, fd, fs⟩ := f
    simp only [Fil.enc, List.map_cons, List.map_nil] at g1 hq
    (simp (disch:=first|decide|omega|(intros;exact Eq.trans rfl rfl)|(simp only[puri];done)) only [wkf, a28_0, ci, g1, hq, go_sem, seval, dis])
    exact hR (i + 1) (by omega) (by omega) _ _ (at_headM (by decide) (by simp only [List.map_cons, List.map_nil, go_sem, seval]; exact rfl) (by rfl) (by rfl) (by rfl))
  · have ci : ¬ (i : Int) < (fl.length : Int) := by omega
    (simp (disch:=first|decide|omega|(intros;exact Eq.trans rfl rfl)|(simp only[puri];done)) only [wkf, a28_0, ci, go_sem, seval, dis])
    try simp [trim]
set_option maxRecDepth 8000 in
theorem same10_spec (m : Man) (hl : m.segs.length ≤ 1000000) : call 15 [.agg m.l, .agg m.l] [] = some (vb true, []) := by
  apply enterS s15 rfl
  obtain ⟨ver, segs, size, sum⟩ := m
  simp only at hl
  (simp (disch:=first|decide|omega|(intros;exact Eq.trans rfl rfl)|(simp only[puri];done)) only [wkf, a15, Man.l, ne_self, neb_self, go_sem, seval, dis])
  refine loop_boxM (m := 0) (σ := Nat) (fun i => segs.length - i) (fun i => i ≤ segs.length) (fun i => [V.one (.p 0 0), V.one (.p 1 0), vi i])
    (fun _ => [.cells [.d (.i .i64 ver), .d (.l (segs.map eI)), .d (.i .i64 size), .d (.i .u32 sum)], .cells [.d (.i .i64 ver), .d (.l (segs.map eI)), .d (.i .i64 size), .d (.i .u32 sum)]]) (fun _ => (vb true, [])) ?_ 0 (Nat.zero_le _) _ _ ?_
  rotate_left
  · exact (at_headM (by decide) (by simp only [List.map_cons, List.map_nil, go_sem, seval]; exact rfl) (by rfl) (by rfl) (by rfl))
  intro i hi R hR
  by_cases c : i < segs.length
  · have ci : (i : Int) < (segs.length : Int) := by omega
    have g1 : (segs.map eI)[i]? = some (eI segs[i]) := by simp [c]
    (simp (disch:=first|decide|omega|(intros;exact Eq.trans rfl rfl)|(simp only[puri];done)) only [wkf, a15_0, ci, g1, eI_len, eI_at, ne_self, go_sem, seval, dis])
    exact hR (i + 1) (by omega) (by omega) _ _ (at_headM (by decide) (by simp only [List.map_cons, List.map_nil, go_sem, seval]; exact rfl) (by rfl) (by rfl) (by rfl))
  · have ci : ¬ (i : Int) < (segs.length : Int) := by omega
    (simp (disch:=first|decide|omega|(intros;exact Eq.trans rfl rfl)|(simp only[puri];done)) only [wkf, a15_0, ci, go_sem, seval, dis])
    try simp [trim]
set_option maxRecDepth 8000 in
theorem same12_spec (s : Sto) (hf : s.disk.files.length ≤ 1000000) (hl : s.segs.length ≤ 1000000) : call 10 [.agg s.l, .agg s.l] [] = some (vb true, []) := by
  have q := same06_spec s.disk hf
  apply enterS s10 rfl
  obtain ⟨⟨fl, cp, ar, lf, dn⟩, ver, segs, next, sure, size, sum⟩ := s
  simp only [Dsk.l] at hl q
  (simp (disch:=first|decide|omega|(intros;exact Eq.trans rfl rfl)|(simp only[puri];done)) only [wkf, a10, Sto.l, Dsk.l, q, ne_self, neb_self, go_sem, seval, dis])
  refine loop_boxM (m := 0) (σ := Nat) (fun i => segs.length - i) (fun i => i ≤ segs.length) (fun i => [V.one (.p 0 0), V.one (.p 1 0), vi i])
    (fun _ => [.cells [.d (.l (fl.map Fil.enc)), .d (.i .i64 cp), .d (.b ar), .d (.i .i64 lf), .d (.b dn), .d (.i .i64 ver), .d (.l (segs.map Seg.enc)), .d (.i .i64 next), .d (.i .i64 sure), .d (.i .i64 size), .d (.i .u32 sum)], .cells [.d (.l (fl.map Fil.enc)), .d (.i .i64 cp), .d (.b ar), .d (.i .i64 lf), .d (.b dn), .d (.i .i64 ver), .d (.l (segs.map Seg.enc)), .d (.i .i64 next), .d (.i .i64 sure), .d (.i .i64 size), .d (.i .u32 sum)]]) (fun _ => (vb true, [])) ?_ 0 (Nat.zero_le _) _ _ ?_
  rotate_left
  · exact (at_headM (by decide) (by simp only [List.map_cons, List.map_nil, go_sem, seval]; exact rfl) (by rfl) (by rfl) (by rfl))
  intro i hi R hR
  by_cases c : i < segs.length
  · have ci : (i : Int) < (segs.length : Int) := by omega
    have g1 : (segs.map Seg.enc)[i]? = some segs[i].enc := by simp [c]
    have hq := Seg.eqs segs[i] segs[i]
    rw [decide_eq_true rfl] at hq
    generalize segs[i] = f at *
    obtain ⟨fb, fn, fs⟩ := f
    simp only [Seg.enc, List.map_cons, List.map_nil] at g1 hq
    (simp (disch:=first|decide|omega|(intros;exact Eq.trans rfl rfl)|(simp only[puri];done)) only [wkf, a10_0, ci, g1, hq, go_sem, seval, dis])
    exact hR (i + 1) (by omega) (by omega) _ _ (at_headM (by decide) (by simp only [List.map_cons, List.map_nil, go_sem, seval]; exact rfl) (by rfl) (by rfl) (by rfl))
  · have ci : ¬ (i : Int) < (segs.length : Int) := by omega
    (simp (disch:=first|decide|omega|(intros;exact Eq.trans rfl rfl)|(simp only[puri];done)) only [wkf, a10_0, ci, go_sem, seval, dis])
    try simp [trim]
theorem rfloor_spec (s : Sto) : call 14 [.agg s.l] [] = some (vi s.floor, []) := by
  apply enterS s14 rfl
  obtain ⟨⟨fl, cp, ar, lf, dn⟩, ver, segs, next, sure, size, sum⟩ := s
  unfold Sto.floor
  cases segs with
  | nil => (simp (disch:=first|decide|omega|(intros;exact Eq.trans rfl rfl)|(simp only[puri];done)) only [a14, Sto.l, Dsk.l, go_sem, seval, dis])
  | cons g r =>
    (simp (disch:=first|decide|omega|(intros;exact Eq.trans rfl rfl)|(simp only[puri];done)) only [a14, Sto.l, Dsk.l, Seg.len, Seg.at0, go_sem, seval, dis])
    try simp [trim]
end Go.Proofs.YtijnkmjbfekajaaGreat

namespace Go.Proofs.YtijnkmjbfekajaaGreat
open Go.Vi
set_option maxRecDepth 8000 in
theorem want_spec {k u : Nat} (s : Sto) (h : okS k u s) (hk : k ≤ 700000) (hu : u ≤ 700000000000) (seg : Int) (a : Act) (ha : a.ok) : call 12 [.agg s.l, vi seg, .agg (a.enc.map .d)] [] = some (stoV (doT s seg a), []) := by
  have q1 := rsync_sto s h (by omega) (by omega)
  have q2 := arm_spec s.disk a.n ha.2.1
  have q3 := lim_spec s.disk a.n ha.2.1
  have ht := tm3 a.n
  have hnx := h.next
  have q4 := rappend_sto s h hk hu seg ⟨s.next + a.n.tmod 3, 7, a.data⟩ ⟨by simp only []; omega, by simp only []; omega, ha.2.2⟩
  unfold doT
  generalize syncT s = r1 at *
  generalize appT s seg ⟨s.next + a.n.tmod 3, 7, a.data⟩ = r4 at *
  generalize armD s.disk a.n = d2 at *
  generalize limD s.disk a.n = d3 at *
  obtain ⟨⟨fl, cp, ar, lf, dn⟩, ver, segs, next, sure, size, sum⟩ := s
  obtain ⟨⟨⟨fl1, cp1, ar1, lf1, dn1⟩, ver1, segs1, next1, sure1, size1, sum1⟩, e1⟩ := r1
  obtain ⟨⟨⟨fl4, cp4, ar4, lf4, dn4⟩, ver4, segs4, next4, sure4, size4, sum4⟩, e4⟩ := r4
  obtain ⟨fl2, cp2, ar2, lf2, dn2⟩ := d2
  obtain ⟨fl3, cp3, ar3, lf3, dn3⟩ := d3
  obtain ⟨ak, an, ad⟩ := a
  simp only [Act.enc, Rec.enc, List.map_cons, List.map_nil, Sto.l, Dsk.l, stoV, List.cons_append, List.nil_append] at q1 q2 q3 q4 ht hnx ⊢
  apply enterS s12 rfl
  by_cases c1 : ak = 1
  · (simp (disch:=first|decide|omega|(intros;exact Eq.trans rfl rfl)|(simp only[puri];done)) only [wkf, a12, c1, q1, go_sem, seval, dis])
    try simp [trim]
  · by_cases c2 : ak = 2
    · subst c2
      (simp (disch:=first|decide|omega|(intros;exact Eq.trans rfl rfl)|(simp only[puri];done)) only [wkf, a12, q2, go_sem, seval, dis])
      try simp [trim]
    · by_cases c3 : ak = 3
      · subst c3
        (simp (disch:=first|decide|omega|(intros;exact Eq.trans rfl rfl)|(simp only[puri];done)) only [wkf, a12, q3, go_sem, seval, dis])
        try simp [trim]
      · (simp (disch:=first|decide|omega|(intros;exact Eq.trans rfl rfl)|(simp only[puri];done)) only [wkf, a12, c1, c2, c3, q4, go_sem, seval, dis])
        try simp [trim, c1, c2, c3]
end Go.Proofs.YtijnkmjbfekajaaGreat

namespace Go.Proofs.YtijnkmjbfekajaaGreat
open Go.Vi
set_option maxRecDepth 20000 in
theorem plays_law1 (seg : Nat) (hs : seg < 256) (l : List Act) (hl : l.length ≤ 9223372036854775807) (hok : ∀ a ∈ l, a.ok) :
    call 3 [vk .u8 (seg : Nat), vl (l.map Act.enc)] [] = some (vb true, []) := by
  have q1 := short12_spec l hl
  apply enterS s3 rfl
  have q2 := awake12_spec
  cases c0 : shortF l with
  | false =>
    rw [c0] at q1
    (simp (disch:=first|decide|omega|(intros;exact Eq.trans rfl rfl)|(simp only[puri];done)) only [a3, q1, q2, go_sem, seval, dis])
  | true =>
    rw [c0] at q1
    have hlen : l.length ≤ 40 := by
      unfold shortF at c0
      simp only [Bool.and_eq_true, decide_eq_true_eq] at c0
      exact c0.1
    have q3 := new_spec d0 d0_ok (by decide) (by decide)
    have q4 := rnew_spec d0 d0_ok (by decide) (by decide)
    obtain ⟨o1, hd1, n1, s1⟩ := createT_ok d0_ok d0_new
    have hcell : ∀ s : Sto, s.l = [.d (.l (s.disk.files.map Fil.enc)), .d (.i .i64 s.disk.cap), .d (.b s.disk.armed), .d (.i .i64 s.disk.left), .d (.b s.disk.down), .d (.i .i64 s.ver), .d (.l (s.segs.map Seg.enc)), .d (.i .i64 s.next), .d (.i .i64 s.sure), .d (.i .i64 s.size), .d (.i .u32 s.sum)] := fun _ => rfl
    have hd0 : d0.l = [.d (.l []), .d (.i .i64 0), .d (.b false), .d (.i .i64 0), .d (.b false)] := rfl
    generalize createT d0 = r0 at *
    obtain ⟨st0, e0⟩ := r0
    simp only [stoV, hcell, hd0] at q3 q4 o1 n1 s1
    have q5 := same12_spec st0 (by have := o1.dsk.len; omega) (by have := o1.len; omega)
    simp only [hcell] at q5
    have hsl0 : ¬ (st0.segs.length : Int) = 0 := by have := o1.len; omega
    (simp (disch:=first|decide|omega|(intros;exact Eq.trans rfl rfl)|(simp only[puri];done)) only [wkf, a3, q1, q3, q4, q5, ne_self, hsl0, go_sem, seval, dis])
    refine loop_boxM (m := 0) (σ := Nat × Sto) (fun t => l.length - t.1) (fun t => t.1 ≤ l.length ∧ okS (10 + 2 * t.1) (2000 + 1000 * t.1) t.2) (fun t => [vk .u8 (seg : Nat), vl (l.map Act.enc), V.one (.p 0 0), V.one (.p 1 0), vi t.1])
      (fun t => [.cells [.d (.l (t.2.disk.files.map Fil.enc)), .d (.i .i64 t.2.disk.cap), .d (.b t.2.disk.armed), .d (.i .i64 t.2.disk.left), .d (.b t.2.disk.down), .d (.i .i64 t.2.ver), .d (.l (t.2.segs.map Seg.enc)), .d (.i .i64 t.2.next), .d (.i .i64 t.2.sure), .d (.i .i64 t.2.size), .d (.i .u32 t.2.sum)], .cells [.d (.l (t.2.disk.files.map Fil.enc)), .d (.i .i64 t.2.disk.cap), .d (.b t.2.disk.armed), .d (.i .i64 t.2.disk.left), .d (.b t.2.disk.down), .d (.i .i64 t.2.ver), .d (.l (t.2.segs.map Seg.enc)), .d (.i .i64 t.2.next), .d (.i .i64 t.2.sure), .d (.i .i64 t.2.size), .d (.i .u32 t.2.sum)]]) (fun _ => (vb true, [])) ?_ (0, st0) ⟨Nat.zero_le _, o1.up (by omega) (by omega)⟩ _ _ ?_
    rotate_left
    · exact (at_headM (by decide) (by simp only [List.map_cons, List.map_nil, go_sem, seval]; exact rfl) (by rfl) (by rfl) (by rfl))
    rintro ⟨i, s⟩ ⟨hi, ho⟩ K hK
    simp only at hi ho ⊢
    have q6 := same12_spec s (by have := ho.dsk.len; omega) (by have := ho.len; omega)
    simp only [hcell] at q6
    by_cases c1 : i < l.length
    · have hc1 : (i : Int) < (l.length : Int) := by omega
      have g1 : (l.map Act.enc)[i]? = some l[i].enc := by simp [c1]
      have ha := hok _ (List.getElem_mem c1)
      have g2 := do_spec s ho (by omega) (by omega) (20 + seg) l[i] ha
      have g3 := want_spec s ho (by omega) (by omega) (20 + seg) l[i] ha
      have o2 := doT_ok ho (20 + seg) l[i] ha
      generalize doT s (20 + seg) l[i] = r at *
      obtain ⟨x, e⟩ := r
      generalize l[i] = a at *
      obtain ⟨ak, an, ad⟩ := a
      simp only [stoV, hcell, Act.enc, List.map_cons, List.map_nil] at g1 g2 g3 o2 ⊢
      have q7 := same12_spec x (by have := o2.dsk.len; omega) (by have := o2.len; omega)
      simp only [hcell] at q7
      have hsl : ¬ (x.segs.length : Int) = 0 := by have := o2.len; omega
      have hK2 := hK (i + 1, x) (by simp only []; omega) ⟨by simp only []; omega, o2.up (by simp only []; omega) (by simp only []; omega)⟩
      (simp (disch:=first|decide|omega|(intros;exact Eq.trans rfl rfl)|(simp only[puri];done)) only [wkf, a3_0, hc1, g1, g2, g3, q6, q7, ne_self, hsl, go_sem, seval, dis, vdr, A.kind, A.xs, optX])
      exact hK2 _ _ (at_headM (by decide) (by simp only [List.map_cons, List.map_nil, go_sem, seval]; exact rfl) (by rfl) (by rfl) (by rfl))
    · have hc1 : ¬ (i : Int) < (l.length : Int) := by omega
      have f1 : call 13 [.agg s.l] [] = some (vi s.floor, []) := floor_spec s
      have f2 := rfloor_spec s
      have m1 := man_spec s (by have := ho.len; omega)
      have m2 := rman_spec s (by have := ho.len; omega)
      have m3 := same10_spec s.man (by have := ho.len; show (s.segs.map _).length ≤ _; simp; omega)
      simp only [hcell, Man.l, Sto.man] at f1 f2 m1 m2 m3
      have hfl : (s.floor == s.floor) = true := by simp
      (simp (disch:=first|decide|omega|(intros;exact Eq.trans rfl rfl)|(simp only[puri];done)) only [wkf, a3_0, hc1, q2, f1, f2, hfl, m1, m2, m3, go_sem, seval, dis])
      try simp [trim]
theorem storePlays_pure (xs : List V) (h : wfAs [(false, [.i .u8]), (false, [.l [.i .i64, .i .i64, .s]])] xs) : call 3 xs [] = some (vb true, []) := by
  simp only [wfAs, wfA] at h
  obtain ⟨_, _, rfl, ⟨d, rfl, hd⟩, _, _, rfl, ⟨e, rfl, he⟩, rfl⟩ := h
  simp only [wfRow, wfT] at hd he
  obtain ⟨_, _, e1, ⟨b, rfl, h1, h2⟩, rfl⟩ := hd
  obtain ⟨_, _, e2, ⟨rows, rfl, hl, hr⟩, rfl⟩ := he
  cases e1; cases e2
  obtain ⟨l, rfl, ha⟩ := rows_map Act.of rows hr
  have h1' : 0 ≤ b := Int.le_trans (by decide) h1
  have h2' : b < 256 := Int.lt_of_le_of_lt h2 (by decide)
  have eb : ((b.toNat : Nat) : Int) = b := Int.toNat_of_nonneg h1'
  have := plays_law1 b.toNat (by omega) l (by simpa using hl) ha
  rw [eb] at this
  exact this
end Go.Proofs.YtijnkmjbfekajaaGreat

