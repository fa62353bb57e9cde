import Derived.Test.YtijnkmjbfekajaaGreatT03
set_option linter.unusedSimpArgs false
set_option linter.unusedVariables false
namespace Go.Proofs.YtijnkmjbfekajaaGreat
open Go.Vi
theorem sunless_spec (s : Dsk × Int) (hd : s.1.ok) (n : Txt) : call 67 [.one (.p 0 0), vs n] [stB s] = some (.tup [], [stB (unlS n s)]) := by
  apply enterS s67 rfl
  obtain ⟨d, e⟩ := s
  unfold unlS
  simp only at hd ⊢
  by_cases h9 : e = 9
  · subst h9
    have h : callIso call 65 [.one (.p 0 0), vs n] [stB (d, 0)] = some (.tup [], [stB (delS n (d, 0))]) :=
      iso_at (ids := [0]) rfl rfl rfl (sremove_spec (d, 0) hd n) rfl
    generalize delS n (d, 0) = r at *
    obtain ⟨⟨f2, cp2, ar2, lf2, dn2⟩, e2⟩ := r
    obtain ⟨fl, cp, ar, lf, dn⟩ := d
    simp only [stB, Dsk.l, List.cons_append, List.nil_append] at h
    by_cases h0 : e2 = 0
    · subst h0
      (simp (disch:=first|decide|omega|(intros;exact Eq.trans rfl rfl)|(simp only[puri];done)) only [wkf, a67, stB, Dsk.l, ↓h, go_sem, seval, dis])
      simp [trim, V.refs, L.refs, Box.refs]
    · (simp (disch:=first|decide|omega|(intros;exact Eq.trans rfl rfl)|(simp only[puri];done)) only [wkf, a67, stB, Dsk.l, ↓h, h0, go_sem, seval, dis])
      simp [trim, V.refs, L.refs, Box.refs, h0]
  · obtain ⟨fl, cp, ar, lf, dn⟩ := d
    (simp (disch:=first|decide|omega|(intros;exact Eq.trans rfl rfl)|(simp only[puri];done)) only [wkf, a67, stB, Dsk.l, h9, go_sem, seval, dis])
    simp [trim, V.refs, L.refs, Box.refs, h9]
def swapS (m : Man) (s : Dsk × Int) : Dsk × Int :=
  let s1 := if s.2 = 0 then (s.1, (manPut m).2) else s
  let s2 := if (readF s1.1.files [110]).2 = 0 then delS [110] s1 else s1
  let s3 := crtS [110] s2
  if s3.2 ≠ 0 then s3 else renS [110] [109] (synS [110] (unlS [110] (appS [110] (manPut m).1 s3)))
theorem manPut_len (m : Man) : (manPut m).1.length ≤ 800 := by
  unfold manPut
  split
  · rename_i h
    have := manBody_len h
    unfold manText
    have h9 := nd_le9 (n := (manBody m).length) (by omega)
    show (frameF (manBody m)).length ≤ 800
    rw [frameF_len]; omega
  · simp
theorem swap_okN {k u : Nat} {s : Dsk × Int} (h : okN k u s.1) (m : Man) : okN (k + 1) (u + 800) (swapS m s).1 := by
  unfold swapS
  have h1 : okN k u (if s.2 = 0 then (s.1, (manPut m).2) else s).1 := by split <;> exact h
  generalize (if s.2 = 0 then (s.1, (manPut m).2) else s) = s1 at *
  have h2 : okN k u (if (readF s1.1.files [110]).2 = 0 then delS [110] s1 else s1).1 := by
    split
    · exact del_okN h1 _
    · exact h1
  simp only []
  generalize (if (readF s1.1.files [110]).2 = 0 then delS [110] s1 else s1) = s2 at *
  have h3 := crt_ok h2 [110]
  split
  · exact h3.up (Nat.le_refl _) (by omega)
  · exact ren_ok (syn_ok (unl_ok ((app_ok h3 [110] (manPut m).1).up (Nat.le_refl _) (by have := manPut_len m; omega)) _) _) _ _
theorem swap_tail (d : Dsk) (e : Int) (te : Int) (tx : Txt) {k u : Nat} (hd : okN k u d) (hk : k ≤ 900000) (hu : u ≤ 900000000000) (htx : tx.length ≤ 800) (ver size sum : Int) (segs : List Int)
    (hp : call 64 [.agg [.d (.i .i64 ver), .d (.l (segs.map eI)), .d (.i .i64 size), .d (.i .u32 sum)]] [] = some (.tup [(false, [.d (.s tx)]), (false, [.d (.i .i64 te)])], []))
    (s1 : Dsk × Int) (hs1 : s1 = (if e = 0 then (d, te) else (d, e))) (s2 : Dsk × Int) (hs2 : s2 = (if (readF s1.1.files [110]).2 = 0 then delS [110] s1 else s1)) :
    call 33 [.one (.p 0 0), .agg [.d (.i .i64 ver), .d (.l (segs.map eI)), .d (.i .i64 size), .d (.i .u32 sum)]] [stB (d, e)] =
      some (.tup [], [stB (if (crtS [110] s2).2 ≠ 0 then crtS [110] s2 else renS [110] [109] (synS [110] (unlS [110] (appS [110] tx (crtS [110] s2)))))]) := by
  have k1 : okN k u s1.1 := by rw [hs1]; split <;> exact hd
  have k2 : okN k u s2.1 := by
    rw [hs2]; split
    · exact del_okN k1 _
    · exact k1
  have k3 := crt_ok k2 [110]
  obtain ⟨s3, hs3⟩ : ∃ s3, s3 = crtS [110] s2 := ⟨_, rfl⟩
  have k4 := app_ok k3 [110] tx
  rw [← hs3] at k3 k4 ⊢
  obtain ⟨s4, hs4⟩ : ∃ s4, s4 = appS [110] tx s3 := ⟨_, rfl⟩
  rw [← hs4] at k4 ⊢
  have k5 := unl_ok k4 [110]
  obtain ⟨s5, hs5⟩ : ∃ s5, s5 = unlS [110] s4 := ⟨_, rfl⟩
  rw [← hs5] at k5 ⊢
  have k6 := syn_ok k5 [110]
  obtain ⟨s6, hs6⟩ : ∃ s6, s6 = synS [110] s5 := ⟨_, rfl⟩
  rw [← hs6] at k6 ⊢
  obtain ⟨s7, hs7⟩ : ∃ s7, s7 = renS [110] [109] s6 := ⟨_, rfl⟩
  rw [← hs7]
  have hr := read_disk s1.1 (Nat.le_trans k1.len (by omega)) k1.srt [110]
  have q1 : ∀ M T : Box, callIso call 65 [.one (.p 0 0), vs [110]] [stB s1, M, T] = some (.tup [], [stB (delS [110] s1), M, T]) := fun M T => iso_at (ids := [0]) rfl rfl rfl (sremove_spec s1 (k1.ok (by omega) (by omega)) _) rfl
  have q2 : ∀ M T : Box, callIso call 31 [.one (.p 0 0), vs [110]] [stB s2, M, T] = some (.tup [], [stB s3, M, T]) := fun M T => by rw [hs3]; exact iso_at (ids := [0]) rfl rfl rfl (screate_spec s2 (k2.ok (by omega) (by omega)) _) rfl
  have q3 : ∀ M : Box, callIso call 60 [.one (.p 0 0), .one (.f 66 [2])] [stB s3, M, .cells [.d (.s tx)]] = some (.tup [], [stB s4, M, .cells [.d (.s tx)]]) := fun M => by
    rw [hs4]; exact iso_at (ids := [0, 2]) rfl rfl rfl (do1 s3 _ tx _ fun _ => swapC1 s3.1 (k3.ok (by omega) (by omega)) tx (by omega)) rfl
  have q4 : ∀ M T : Box, callIso call 67 [.one (.p 0 0), vs [110]] [stB s4, M, T] = some (.tup [], [stB s5, M, T]) := fun M T => by rw [hs5]; exact iso_at (ids := [0]) rfl rfl rfl (sunless_spec s4 (k4.ok (by omega) (by omega)) _) rfl
  have q5 : ∀ M T : Box, callIso call 68 [.one (.p 0 0), vs [110]] [stB s5, M, T] = some (.tup [], [stB s6, M, T]) := fun M T => by rw [hs6]; exact iso_at (ids := [0]) rfl rfl rfl (ssync_spec s5 (k5.ok (by omega) (by omega)) _) rfl
  have q6 : ∀ M T : Box, callIso call 60 [.one (.p 0 0), .one (.f 69 [])] [stB s6, M, T] = some (.tup [], [stB s7, M, T]) := fun M T => by
    rw [hs7]; exact iso_at (ids := [0]) rfl rfl rfl (do0 s6 _ _ fun _ => swapC2 s6.1 (k6.ok (by omega) (by omega))) rfl
  clear hs3 hs4 hs5 hs6 hs7 k2 k3 k4 k5 k6
  obtain ⟨d3, e3⟩ := s3
  apply enterS s33 rfl
  by_cases he : e = 0
  · rw [if_pos he] at hs1
    subst hs1
    subst he
    by_cases hrd : (readF d.files [110]).2 = 0
    · simp only [] at hs2 hr
      rw [if_pos hrd] at hs2
      rw [← hs2] at q1
      rw [hrd] at hr
      simp only [stB, Dsk.l, List.cons_append, List.nil_append] at hr q1 q2 q3 q4 q5 q6
      by_cases h3 : e3 = 0
      · subst h3
        (simp (disch:=first|decide|omega|(intros;exact Eq.trans rfl rfl)|(simp only[puri];done)) only [wkf, a33, stB, Dsk.l, hp, hr, ↓q1, ↓q2, ↓q3, ↓q4, ↓q5, ↓q6, go_sem, seval, dis])
        try simp [trim, V.refs, L.refs, Box.refs, stB, Dsk.l]
      · (simp (disch:=first|decide|omega|(intros;exact Eq.trans rfl rfl)|(simp only[puri];done)) only [wkf, a33, stB, Dsk.l, hp, hr, ↓q1, ↓q2, ↓q3, ↓q4, ↓q5, ↓q6, h3, go_sem, seval, dis])
        try simp [trim, V.refs, L.refs, Box.refs, stB, Dsk.l, h3]
    · simp only [] at hs2 hr
      rw [if_neg hrd] at hs2
      subst hs2
      simp only [stB, Dsk.l, List.cons_append, List.nil_append] at hr q1 q2 q3 q4 q5 q6
      by_cases h3 : e3 = 0
      · subst h3
        (simp (disch:=first|decide|omega|(intros;exact Eq.trans rfl rfl)|(simp only[puri];done)) only [wkf, a33, stB, Dsk.l, hp, hr, hrd, ↓q2, ↓q3, ↓q4, ↓q5, ↓q6, go_sem, seval, dis])
        try simp [trim, V.refs, L.refs, Box.refs, stB, Dsk.l]
      · (simp (disch:=first|decide|omega|(intros;exact Eq.trans rfl rfl)|(simp only[puri];done)) only [wkf, a33, stB, Dsk.l, hp, hr, hrd, ↓q2, ↓q3, ↓q4, ↓q5, ↓q6, h3, go_sem, seval, dis])
        try simp [trim, V.refs, L.refs, Box.refs, stB, Dsk.l, h3]
  · rw [if_neg he] at hs1
    subst hs1
    by_cases hrd : (readF d.files [110]).2 = 0
    · simp only [] at hs2 hr
      rw [if_pos hrd] at hs2
      rw [← hs2] at q1
      rw [hrd] at hr
      simp only [stB, Dsk.l, List.cons_append, List.nil_append] at hr q1 q2 q3 q4 q5 q6
      by_cases h3 : e3 = 0
      · subst h3
        (simp (disch:=first|decide|omega|(intros;exact Eq.trans rfl rfl)|(simp only[puri];done)) only [wkf, a33, stB, Dsk.l, hp, hr, ↓q1, ↓q2, ↓q3, ↓q4, ↓q5, ↓q6, go_sem, seval, dis])
        try simp [trim, V.refs, L.refs, Box.refs, stB, Dsk.l]
      · (simp (disch:=first|decide|omega|(intros;exact Eq.trans rfl rfl)|(simp only[puri];done)) only [wkf, a33, stB, Dsk.l, hp, hr, ↓q1, ↓q2, ↓q3, ↓q4, ↓q5, ↓q6, h3, go_sem, seval, dis])
        try simp [trim, V.refs, L.refs, Box.refs, stB, Dsk.l, h3]
    · simp only [] at hs2 hr
      rw [if_neg hrd] at hs2
      subst hs2
      simp only [stB, Dsk.l, List.cons_append, List.nil_append] at hr q1 q2 q3 q4 q5 q6
      by_cases h3 : e3 = 0
      · subst h3
        (simp (disch:=first|decide|omega|(intros;exact Eq.trans rfl rfl)|(simp only[puri];done)) only [wkf, a33, stB, Dsk.l, hp, hr, hrd, ↓q2, ↓q3, ↓q4, ↓q5, ↓q6, go_sem, seval, dis])
        try simp [trim, V.refs, L.refs, Box.refs, stB, Dsk.l]
      · (simp (disch:=first|decide|omega|(intros;exact Eq.trans rfl rfl)|(simp only[puri];done)) only [wkf, a33, stB, Dsk.l, hp, hr, hrd, ↓q2, ↓q3, ↓q4, ↓q5, ↓q6, h3, go_sem, seval, dis])
        try simp [trim, V.refs, L.refs, Box.refs, stB, Dsk.l, h3]
theorem sswap_spec (s : Dsk × Int) {k u : Nat} (hd : okN k u s.1) (hk : k ≤ 900000) (hu : u ≤ 900000000000) (m : Man) (hm : m.ok) : call 33 [.one (.p 0 0), .agg m.l] [stB s] = some (.tup [], [stB (swapS m s)]) := by
  have hp := manPut_spec m hm
  have hpl := manPut_len m
  obtain ⟨d, e⟩ := s
  have h := swap_tail d e (manPut m).2 (manPut m).1 hd hk hu hpl m.ver m.size m.sum m.segs hp _ rfl _ rfl
  exact h
end Go.Proofs.YtijnkmjbfekajaaGreat

namespace Go.Proofs.YtijnkmjbfekajaaGreat
open Go.Vi
structure Seg where
  base : Int
  n : Int
  size : Int
  deriving DecidableEq
def Seg.enc (e : Seg) : List D := [.i .i64 e.base, .i .i64 e.n, .i .i64 e.size]
theorem Seg.len (e : Seg) : e.enc.length = 3 := Eq.trans rfl rfl
theorem Seg.tk (e : Seg) : e.enc.take 3 = e.enc := Eq.trans rfl rfl
theorem Seg.tkL (e : Seg) : (e.enc.map L.d).take 3 = e.enc.map L.d := Eq.trans rfl rfl
theorem Seg.dat (e : Seg) : dataLs (e.enc.map L.d) = some (e.enc.map L.d) := Eq.trans rfl rfl
theorem Seg.lenL (e : Seg) : (e.enc.map L.d).length = 3 := Eq.trans rfl rfl
theorem Seg.at0 (e : Seg) : e.enc[0]? = some (.i .i64 e.base) := Eq.trans rfl rfl
theorem Seg.fd0 (e : Seg) : (e.enc.map L.d)[0]? = some (.d (.i .i64 e.base)) := Eq.trans rfl rfl
theorem Seg.at1 (e : Seg) : (e.enc.drop 1)[0]? = some (.i .i64 e.n) := Eq.trans rfl rfl
theorem Seg.fd1 (e : Seg) : (e.enc.map L.d)[1]? = some (.d (.i .i64 e.n)) := Eq.trans rfl rfl
theorem Seg.at2 (e : Seg) : (e.enc.drop 2)[0]? = some (.i .i64 e.size) := Eq.trans rfl rfl
theorem Seg.fd2 (e : Seg) : (e.enc.map L.d)[2]? = some (.d (.i .i64 e.size)) := Eq.trans rfl rfl
theorem Seg.up1 (e : Seg) (x : Int) : e.enc.take 1 ++ [.i .i64 x] ++ e.enc.drop 2 = ({ e with n := x } : Seg).enc := Eq.trans rfl rfl
theorem Seg.up2 (e : Seg) (x : Int) : e.enc.take 2 ++ [.i .i64 x] ++ e.enc.drop 3 = ({ e with size := x } : Seg).enc := Eq.trans rfl rfl
def Seg.ok (e : Seg) : Prop := (-9223372036854775808 ≤ e.base ∧ e.base < 9223372036854775808) ∧ (-9223372036854775808 ≤ e.n ∧ e.n < 9223372036854775808) ∧ (-9223372036854775808 ≤ e.size ∧ e.size < 9223372036854775808)
def Seg.ty : List Ty := [.i .i64, .i .i64, .i .i64]
theorem Seg.eqs (a b : Seg) : scEqs [0, 0, 0] (a.enc.map L.d) (b.enc.map L.d) = some (decide (a = b)) := by
  cases a; cases b
  simp only [Seg.enc, List.map_cons, List.map_nil, scEqs, scEq, if_true, Seg.mk.injEq]
  congr 1
  rw [Bool.eq_iff_iff]
  simp only [Bool.and_eq_true, beq_iff_eq, decide_eq_true_eq, and_true]
theorem Seg.of (r : List D) (h : wfRow Seg.ty r) : ∃ e : Seg, r = e.enc ∧ e.ok := by
  simp only [Seg.ty, wfRow, wfT] at h
  obtain ⟨_, _, rfl, ⟨x0, rfl, h0, g0⟩, ⟨_, _, rfl, ⟨x1, rfl, h1, g1⟩, ⟨_, _, rfl, ⟨x2, rfl, h2, g2⟩, rfl⟩⟩⟩ := h
  refine ⟨⟨x0, x1, x2⟩, rfl, ?_⟩
  exact ⟨⟨Int.le_trans (by decide) h0, Int.lt_of_le_of_lt g0 (by decide)⟩, ⟨Int.le_trans (by decide) h1, Int.lt_of_le_of_lt g1 (by decide)⟩, ⟨Int.le_trans (by decide) h2, Int.lt_of_le_of_lt g2 (by decide)⟩⟩
structure Sto where
  disk : Dsk
  ver : Int
  segs : List Seg
  next : Int
  sure : Int
  size : Int
  sum : Int
def Sto.l (s : Sto) : List L := s.disk.l ++ [.d (.i .i64 s.ver), .d (.l (s.segs.map Seg.enc)), .d (.i .i64 s.next), .d (.i .i64 s.sure), .d (.i .i64 s.size), .d (.i .u32 s.sum)]
def Sto.man (s : Sto) : Man := ⟨s.ver, s.segs.map Seg.base, s.size, s.sum⟩
def stoV (r : Sto × Int) : V := .tup [(true, r.1.l), (false, [.d (.i .i64 r.2)])]
theorem last_spec (s : Sto) (g : Seg) (hl : s.segs.length ≤ 1000000) (hg : s.segs.getLast? = some g) : call 56 [.agg s.l] [] = some (.agg (g.enc.map .d), []) := by
  apply enterS s56 rfl
  obtain ⟨⟨fl, cp, ar, lf, dn⟩, ver, segs, next, sure, size, sum⟩ := s
  simp only at hg hl
  have h0 : 0 < segs.length := by cases segs <;> simp_all
  have h2 : ((segs.length : Int) - 1).toNat = segs.length - 1 := by omega
  have g1 : (segs.map Seg.enc)[segs.length - 1]? = some g.enc := by rw [List.getElem?_map, ← List.getLast?_eq_getElem?, hg]; rfl
  (simp (disch:=first|decide|omega|(intros;exact Eq.trans rfl rfl)|(simp only[puri];done)) only [a56, Sto.l, Dsk.l, h2, g1, Seg.len, Seg.tk, Seg.tkL, go_sem, seval, dis])
  try simp [trim]
theorem floor_spec (s : Sto) : call 13 [.agg s.l] [] = some (vi (match s.segs with | [] => 0 | g :: _ => g.base), []) := by
  apply enterS s13 rfl
  obtain ⟨⟨fl, cp, ar, lf, dn⟩, ver, segs, next, sure, size, sum⟩ := s
  cases segs with
  | nil => (simp (disch:=first|decide|omega|(intros;exact Eq.trans rfl rfl)|(simp only[puri];done)) only [a13, Sto.l, Dsk.l, go_sem, seval, dis])
  | cons g r =>
    (simp (disch:=first|decide|omega|(intros;exact Eq.trans rfl rfl)|(simp only[puri];done)) only [a13, Sto.l, Dsk.l, Seg.len, Seg.at0, go_sem, seval, dis])
    try simp [trim]
def hldF : List Seg → Int → Nat → Seg → Seg
  | l, off, 0, z => l.headD z
  | l, off, k + 1, z => match l[k + 1]? with | some g => if g.base > off then hldF l off k z else g | none => z
def Sto.hld (s : Sto) (off : Int) : Seg := hldF s.segs off (s.segs.length - 1) ⟨0, 0, 0⟩
theorem holder_spec (s : Sto) (off : Int) (h0 : 0 < s.segs.length) (hl : s.segs.length ≤ 1000000) : call 40 [.agg s.l, vi off] [] = some (.agg ((s.hld off).enc.map .d), []) := by
  apply enterS s40 rfl
  unfold Sto.hld
  obtain ⟨⟨fl, cp, ar, lf, dn⟩, ver, segs, next, sure, size, sum⟩ := s
  simp only at h0 hl ⊢
  have hc : ((segs.length : Int) - 1) = ((segs.length - 1 : Nat) : Int) := by omega
  (simp (disch:=first|decide|omega|(intros;exact Eq.trans rfl rfl)|(simp only[puri];done)) only [a40, Sto.l, Dsk.l, hc, go_sem, seval, dis])
  obtain ⟨Z, hZ⟩ : ∃ Z : V, Z = V.agg ((hldF segs off (segs.length - 1) ⟨0, 0, 0⟩).enc.map .d) := ⟨_, rfl⟩
  rw [← hZ]
  refine loop_boxM (m := 0) (σ := Nat) (fun k => k) (fun k => k < segs.length ∧ hldF segs off (segs.length - 1) ⟨0, 0, 0⟩ = hldF segs off k ⟨0, 0, 0⟩) (fun k => [vi off, V.one (.p 0 0), V.one (.p 1 0), vi k])
    (fun _ => [.cells [.d (.l (fl.map Fil.enc)), .d (.i .i64 cp), .d (.b ar), .d (.i .i64 lf), .d (.b dn), .d (.i .i64 ver), .d (.l (segs.map Seg.enc)), .d (.i .i64 next), .d (.i .i64 sure), .d (.i .i64 size), .d (.i .u32 sum)], .cells [.d (.i .i64 0), .d (.i .i64 0), .d (.i .i64 0)]]) (fun _ => (Z, [])) ?_ (segs.length - 1) ⟨by omega, rfl⟩ _ _ ?_
  rotate_left
  · exact (at_headM (by decide) (by simp only [List.map_cons, List.map_nil, go_sem, seval]; exact rfl) (by rfl) (by rfl) (by rfl))
  rintro k ⟨hk, he⟩ R hR
  rw [he] at hZ
  have g1 : (segs.map Seg.enc)[k]? = some segs[k].enc := by simp [hk]
  by_cases hk0 : k = 0
  · subst hk0
    have e : hldF segs off 0 ⟨0, 0, 0⟩ = segs[0] := by cases segs with | nil => cases h0 | cons a r => rfl
    rw [e] at hZ
    (simp (disch:=first|decide|omega|(intros;exact Eq.trans rfl rfl)|(simp only[puri];done)) only [a40_0, g1, Seg.len, Seg.tk, Seg.tkL, go_sem, seval, dis])
    rw [hZ]
    try simp [trim]
  · obtain ⟨j, rfl⟩ : ∃ j, k = j + 1 := ⟨k - 1, by omega⟩
    have e : hldF segs off (j + 1) ⟨0, 0, 0⟩ = if segs[j + 1].base > off then hldF segs off j ⟨0, 0, 0⟩ else segs[j + 1] := by simp [hldF, hk]
    rw [e] at hZ he
    have c0 : (0 : Int) < ((j + 1 : Nat) : Int) := by omega
    have hc2 : (((j + 1 : Nat) : Int) - 1) = (j : Int) := by omega
    by_cases c : off < segs[j + 1].base
    · rw [if_pos c] at he
      (simp (disch:=first|decide|omega|(intros;exact Eq.trans rfl rfl)|(simp only[puri];done)) only [a40_0, c0, g1, Seg.len, Seg.at0, c, hc2, go_sem, seval, dis])
      exact hR j (by omega) ⟨by omega, he⟩ _ _ (at_headM (by decide) (by simp only [List.map_cons, List.map_nil, go_sem, seval]; exact rfl) (by rfl) (by rfl) (by rfl))
    · rw [if_neg c] at hZ
      (simp (disch:=first|decide|omega|(intros;exact Eq.trans rfl rfl)|(simp only[puri];done)) only [a40_0, c0, g1, Seg.len, Seg.at0, Seg.tk, Seg.tkL, c, go_sem, seval, dis])
      rw [hZ]
      try simp [trim]
end Go.Proofs.YtijnkmjbfekajaaGreat

namespace Go.Proofs.YtijnkmjbfekajaaGreat
open Go.Vi
structure okS (k u : Nat) (s : Sto) : Prop where
  dsk : okN k u s.disk
  len : 1 ≤ s.segs.length ∧ s.segs.length ≤ 64
  seg : ∀ g ∈ s.segs, (0 ≤ g.base ∧ g.base ≤ 1099511627776) ∧ (0 ≤ g.n ∧ g.n ≤ u) ∧ (0 ≤ g.size ∧ g.size ≤ u)
  next : 0 ≤ s.next ∧ s.next ≤ 1099511627776
  ver : 0 ≤ s.ver ∧ s.ver ≤ u
  sum : 0 ≤ s.sum ∧ s.sum < 4294967296
def Sto.last (s : Sto) : Seg := s.segs.getLastD ⟨0, 0, 0⟩
theorem last_q {s : Sto} (h : 1 ≤ s.segs.length) : s.segs.getLast? = some s.last := by
  unfold Sto.last
  rw [List.getLastD_eq_getLast?]
  cases hc : s.segs.getLast? with
  | some g => rfl
  | none => rw [List.getLast?_eq_none_iff] at hc; rw [hc] at h; exact absurd h (by decide)
theorem last_mem {s : Sto} (h : 1 ≤ s.segs.length) : s.last ∈ s.segs := List.mem_of_getLast? (last_q h)
def fileN (n : Int) : Txt := nameF 115 n.toNat
theorem seg_int {n : Int} (h : 0 ≤ n ∧ n ≤ 1099511627776) : call 32 [vi n] [] = some (vs (fileN n), []) := by
  have := seg_spec n.toNat (by omega)
  have e : ((n.toNat : Nat) : Int) = n := by omega
  rw [e] at this
  exact this
def syncT (s : Sto) : Sto × Int :=
  let r := chgF s.disk (synR s.disk.files (fileN s.last.base))
  ({ s with disk := r.1, sure := if r.2 = 0 then s.next else s.sure }, r.2)
theorem sync_spec {k u : Nat} (s : Sto) (h : okS k u s) (hk : k ≤ 800000) (hu : u ≤ 800000000000) : call 30 [.agg s.l] [] = some (stoV (syncT s), []) := by
  apply enterS s30 rfl
  have q1 := last_spec s s.last (by have := h.len; omega) (last_q h.len.1)
  have q2 := seg_int (h.seg _ (last_mem h.len.1)).1
  have q3 := sync_disk s.disk (h.dsk.ok (by omega) (by omega)) (fileN s.last.base)
  unfold syncT
  simp only []
  generalize chgF s.disk (synR s.disk.files (fileN s.last.base)) = r at *
  generalize s.last = g at *
  obtain ⟨⟨fl, cp, ar, lf, dn⟩, ver, segs, next, sure, size, sum⟩ := s
  obtain ⟨⟨f2, cp2, ar2, lf2, dn2⟩, e2⟩ := r
  obtain ⟨b, n, z⟩ := g
  simp only [Sto.l, Dsk.l, Seg.enc, dskV, List.cons_append, List.nil_append, List.map_cons, List.map_nil] at q1 q2 q3 ⊢
  by_cases c : e2 = 0
  · subst c
    (simp (disch:=first|decide|omega|(intros;exact Eq.trans rfl rfl)|(simp only[puri];done)) only [wkf, a30, q1, q2, q3, stoV, Sto.l, Dsk.l, go_sem, seval, dis])
    try simp [trim]
  · (simp (disch:=first|decide|omega|(intros;exact Eq.trans rfl rfl)|(simp only[puri];done)) only [wkf, a30, q1, q2, q3, c, stoV, Sto.l, Dsk.l, go_sem, seval, dis])
    try simp [trim, c]
end Go.Proofs.YtijnkmjbfekajaaGreat

namespace Go.Proofs.YtijnkmjbfekajaaGreat
open Go.Vi
def rowsM (segs : List Seg) (i : Nat) : List (List D) := (segs.take i).map (fun g => eI g.base) ++ List.replicate (segs.length - i) (eI 0)
theorem rowsM_len (segs : List Seg) (i : Nat) (h : i ≤ segs.length) : (rowsM segs i).length = segs.length := by simp [rowsM]; omega
theorem rowsM_at (segs : List Seg) (i : Nat) (h : i < segs.length) : (rowsM segs i)[i]? = some (eI 0) := by
  unfold rowsM
  rw [List.getElem?_append_right (by simp; omega), List.getElem?_replicate]
  rw [if_pos]
  simp; omega
theorem rowsM_set (segs : List Seg) (i : Nat) (h : i < segs.length) : (rowsM segs i).set i (eI segs[i].base) = rowsM segs (i + 1) := by
  unfold rowsM
  have e : segs.length - i = (segs.length - (i + 1)) + 1 := by omega
  rw [List.set_append_right _ _ (by simp; omega), e, List.replicate_succ, List.take_succ_eq_append_getElem h, List.map_append]
  have e2 : i - ((segs.take i).map fun g => eI g.base).length = 0 := by simp; omega
  rw [e2]; simp
set_option maxRecDepth 8000 in
theorem man_spec (s : Sto) (hl : s.segs.length ≤ 1000000) : call 16 [.agg s.l] [] = some (.agg s.man.l, []) := by
  apply enterS s16 rfl
  obtain ⟨⟨fl, cp, ar, lf, dn⟩, ver, segs, next, sure, size, sum⟩ := s
  simp only at hl
  unfold Sto.man
  (simp (disch:=first|decide|omega|(intros;exact Eq.trans rfl rfl)|(simp only[puri];done)) only [a16, Sto.l, Dsk.l, Man.l, go_sem, seval, dis, vdr, A.kind, A.xs, optX])
  refine loop_boxM (m := 0) (σ := Nat) (fun i => segs.length - i) (fun i => i ≤ segs.length) (fun i => [V.one (.p 0 0), V.one (.p 1 0), vl (segs.map Seg.enc), vi segs.length, vi i])
    (fun i => [.cells [.d (.i .i64 0), .ns, .d (.i .i64 0), .d (.i .u32 0)], .cells [.d (.i .i64 ver), .sl 2 1 0 segs.length, .d (.i .i64 size), .d (.i .u32 sum)], .arr 1 (rowsM segs i) 0]) (fun _ => (V.agg [.d (.i .i64 ver), .d (.l ((segs.map Seg.base).map eI)), .d (.i .i64 size), .d (.i .u32 sum)], [])) ?_ 0 (Nat.zero_le _) _ _ ?_
  rotate_left
  · have e : rowsM segs 0 = List.replicate segs.length [D.i .i64 0] := by simp [rowsM, eI]
    rw [e]; exact (at_headM (by decide) (by simp only [List.map_cons, List.map_nil, go_sem, seval]; exact rfl) (by rfl) (by rfl) (by rfl))
  intro i hi R hR
  have hln := rowsM_len segs i hi
  by_cases c : i < segs.length
  · have g1 : (segs.map Seg.enc)[i]? = some segs[i].enc := by simp [c]
    have g2 := rowsM_at segs i c
    have g3 := rowsM_set segs i c
    have hR' := hR (i + 1) (by omega) (by omega)
    rw [← g3] at hR'
    generalize rowsM segs i = Q at *
    generalize segs[i] = g at *
    obtain ⟨b, n, z⟩ := g
    simp only [eI] at g2 hR'
    (simp (disch:=first|decide|omega|(intros;exact Eq.trans rfl rfl)|(simp only[puri];done)) only [a16_0, c, g1, g2, Seg.enc, hln, go_sem, seval, dis])
    exact hR' _ _ (at_headM (by decide) (by simp only [List.map_cons, List.map_nil, go_sem, seval]; exact rfl) (by rfl) (by rfl) (by rfl))
  · have e : i = segs.length := by omega
    subst e
    have e2 : rowsM segs segs.length = segs.map fun g => eI g.base := by simp [rowsM]
    rw [e2] at hln ⊢
    have e3 : (segs.map Seg.base).map eI = segs.map fun g => eI g.base := by simp
    rw [e3]
    generalize (segs.map fun g => eI g.base) = Q at *
    have e4 : Q.take segs.length = Q := List.take_of_length_le (by omega)
    (simp (disch:=first|decide|omega|(intros;exact Eq.trans rfl rfl)|(simp only[puri];done)) only [a16_0, e4, hln, go_sem, seval, dis])
    try simp [trim, V.refs, L.refs, Box.refs]
end Go.Proofs.YtijnkmjbfekajaaGreat

namespace Go.Proofs.YtijnkmjbfekajaaGreat
open Go.Vi
def createT (d : Dsk) : Sto × Int :=
  let s1 := crtS (fileN 0) (d, 0)
  let s2 := if s1.2 = 0 then swapS ⟨1, [0], 0, 0⟩ s1 else s1
  if s2.2 = 0 then (⟨s2.1, 1, [⟨0, 0, 0⟩], 0, 0, 0, 0⟩, 0) else (⟨s2.1, 0, [], 0, 0, 0, 0⟩, s2.2)
set_option maxRecDepth 8000 in
theorem new_spec {k u : Nat} (d : Dsk) (hd : okN k u d) (hk : k ≤ 800000) (hu : u ≤ 800000000000) : call 8 [.agg d.l] [] = some (stoV (createT d), []) := by
  apply enterS s8 rfl
  unfold createT
  simp only []
  have q1 := seg_int (n := 0) ⟨by decide, by decide⟩
  have k1 := crt_ok (s := (d, 0)) hd (fileN 0)
  have q2 := screate_spec (d, 0) (hd.ok (by omega) (by omega)) (fileN 0)
  have q3 := man_spec ⟨⟨[], 0, false, 0, false⟩, 1, [⟨0, 0, 0⟩], 0, 0, 0, 0⟩ (by simp)
  have q4 := fun s1 (h : okN (k + 1) u s1.1) => sswap_spec s1 h (by omega) (by omega) ⟨1, [0], 0, 0⟩ ⟨by simp, by simp⟩
  have q4 := q4 _ k1
  generalize crtS (fileN 0) (d, 0) = s1 at *
  generalize swapS ⟨1, [0], 0, 0⟩ s1 = s3 at *
  obtain ⟨fl, cp, ar, lf, dn⟩ := d
  obtain ⟨⟨fl1, cp1, ar1, lf1, dn1⟩, e1⟩ := s1
  obtain ⟨⟨fl3, cp3, ar3, lf3, dn3⟩, e3⟩ := s3
  simp only [stB, Dsk.l, Sto.l, Seg.enc, Sto.man, Man.l, List.cons_append, List.nil_append, List.map_cons, List.map_nil, eI] at q1 q2 q3 q4 ⊢
  have r2 : ∀ P Q R T : Box, callIso call 31 [.one (.p 4 0), vs (fileN 0)] [P, Q, R, T, .cells [.d (.l (fl.map Fil.enc)), .d (.i .i64 cp), .d (.b ar), .d (.i .i64 lf), .d (.b dn), .d (.i .i64 0)]] = some (.tup [], [P, Q, R, T, .cells [.d (.l (fl1.map Fil.enc)), .d (.i .i64 cp1), .d (.b ar1), .d (.i .i64 lf1), .d (.b dn1), .d (.i .i64 e1)]]) := fun P Q R T =>
    iso_at (ids := [4]) rfl rfl rfl q2 rfl
  have r4 : ∀ P Q R T : Box, callIso call 33 [.one (.p 4 0), .agg [.d (.i .i64 1), .d (.l [[.i .i64 0]]), .d (.i .i64 0), .d (.i .u32 0)]] [P, Q, R, T, .cells [.d (.l (fl1.map Fil.enc)), .d (.i .i64 cp1), .d (.b ar1), .d (.i .i64 lf1), .d (.b dn1), .d (.i .i64 e1)]] = some (.tup [], [P, Q, R, T, .cells [.d (.l (fl3.map Fil.enc)), .d (.i .i64 cp3), .d (.b ar3), .d (.i .i64 lf3), .d (.b dn3), .d (.i .i64 e3)]]) := fun P Q R T =>
    iso_at (ids := [4]) rfl rfl rfl q4 rfl
  by_cases c : e1 = 0
  · subst c
    by_cases c3 : e3 = 0
    · subst c3
      (simp (disch:=first|decide|omega|(intros;exact Eq.trans rfl rfl)|(simp only[puri];done)) only [wkf, a8, q1, ↓r2, q3, ↓r4, go_sem, seval, dis, vdr, A.kind, A.xs, optX])
      try simp [trim, stoV, Sto.l, Dsk.l, Seg.enc]
    · (simp (disch:=first|decide|omega|(intros;exact Eq.trans rfl rfl)|(simp only[puri];done)) only [wkf, a8, q1, ↓r2, q3, ↓r4, c3, go_sem, seval, dis, vdr, A.kind, A.xs, optX])
      try simp [trim, stoV, Sto.l, Dsk.l, Seg.enc, c3]
  · (simp (disch:=first|decide|omega|(intros;exact Eq.trans rfl rfl)|(simp only[puri];done)) only [wkf, a8, q1, ↓r2, c, go_sem, seval, dis, vdr, A.kind, A.xs, optX])
    try simp [trim, stoV, Sto.l, Dsk.l, Seg.enc, c]
end Go.Proofs.YtijnkmjbfekajaaGreat

namespace Go.Proofs.YtijnkmjbfekajaaGreat
open Go.Vi
def rollX (s : Sto) : Sto := { s with ver := s.ver + 1, segs := s.segs ++ [⟨s.next, 0, 0⟩] }
def rollD (s : Sto) : Dsk × Int :=
  let c := crtS (fileN s.next) (s.disk, 0)
  if c.2 = 0 then unlS (fileN s.next) (swapS (rollX s).man c) else c
def rollT (s : Sto) : Sto × Int :=
  if 64 ≤ s.segs.length then (s, 9) else
    if (syncT s).2 ≠ 0 then syncT s else
      if (rollD (syncT s).1).2 = 0 then ({ rollX (syncT s).1 with disk := (rollD (syncT s).1).1 }, 0)
      else ({ (syncT s).1 with disk := (rollD (syncT s).1).1 }, (rollD (syncT s).1).2)
theorem syncT_ok {k u : Nat} {s : Sto} (h : okS k u s) : okS k u (syncT s).1 := by
  refine ⟨?_, h.len, h.seg, h.next, h.ver, h.sum⟩
  have := syn_ok (s := (s.disk, 0)) h.dsk (fileN s.last.base)
  exact this
set_option maxRecDepth 8000 in
theorem roll_spec {k u : Nat} (s : Sto) (h : okS k u s) (hk : k ≤ 800000) (hu : u ≤ 800000000000) : call 57 [.agg s.l] [] = some (stoV (rollT s), []) := by
  have q1 := sync_spec s h hk hu
  have h1 := syncT_ok h
  have hsl : (syncT s).1.segs = s.segs := rfl
  apply enterS s57 rfl
  unfold rollT
  by_cases c0 : 64 ≤ s.segs.length
  · rw [if_pos c0]
    obtain ⟨⟨fl, cp, ar, lf, dn⟩, ver, segs, next, sure, size, sum⟩ := s
    simp only at c0
    have c1 : (64 : Int) ≤ segs.length := by omega
    (simp (disch:=first|decide|omega|(intros;exact Eq.trans rfl rfl)|(simp only[puri];done)) only [wkf, a57, c1, stoV, Sto.l, Dsk.l, go_sem, seval, dis])
    try simp [trim]
  · rw [if_neg c0]
    have c1 : ¬ (64 : Int) ≤ s.segs.length := by omega
    rw [← hsl] at c1
    generalize syncT s = r at *
    obtain ⟨s1, e1⟩ := r
    simp only at q1 h1 hsl c1 ⊢
    by_cases c2 : e1 = 0
    · subst c2
      rw [if_neg (by simp)]
      have q2 := seg_int h1.next
      have q3 := screate_spec (s1.disk, 0) (h1.dsk.ok (by omega) (by omega)) (fileN s1.next)
      have k1 := crt_ok (s := (s1.disk, 0)) h1.dsk (fileN s1.next)
      have q4 := man_spec (rollX s1) (by have := h1.len; show (s1.segs ++ [_]).length ≤ _; simp; omega)
      have q5 := fun c (h : okN (k + 1) u c.1) => sswap_spec c h (by omega) (by omega) (rollX s1).man ⟨by have := h1.len; show ((s1.segs ++ [_]).map _).length ≤ _; simp; omega, h1.sum⟩
      have q5 := q5 _ k1
      have k2 := swap_okN k1 (rollX s1).man
      have q6 := sunless_spec _ (k2.ok (by omega) (by omega)) (fileN s1.next)
      have k3 := unl_ok k2 (fileN s1.next)
      unfold rollD
      simp only []
      generalize crtS (fileN s1.next) (s1.disk, 0) = c at *
      generalize swapS (rollX s1).man c = d at *
      generalize unlS (fileN s1.next) d = t at *
      generalize fileN s1.next = N at *
      obtain ⟨⟨fl, cp, ar, lf, dn⟩, ver, segs, next, sure, size, sum⟩ := s
      obtain ⟨⟨fl1, cp1, ar1, lf1, dn1⟩, ver1, segs1, next1, sure1, size1, sum1⟩ := s1
      obtain ⟨⟨fl2, cp2, ar2, lf2, dn2⟩, e2⟩ := c
      obtain ⟨⟨fl3, cp3, ar3, lf3, dn3⟩, e3⟩ := d
      obtain ⟨⟨fl4, cp4, ar4, lf4, dn4⟩, e4⟩ := t
      simp only at hsl
      subst hsl
      have hver := h1.ver
      have hlen := h1.len
      simp only [stB, Dsk.l, Sto.l, Sto.man, rollX, Man.l, stoV, List.cons_append, List.nil_append, List.map_cons, List.map_nil, List.map_append, Seg.enc] at q1 q2 q3 q4 q5 q6 c1 hver hlen ⊢
      have hok : okRows 3 (segs1.map Seg.enc) = true := okRows_map Seg.len segs1
      have htk : (segs1.map Seg.enc).take segs1.length = segs1.map Seg.enc := List.take_of_length_le (by simp)
      have hb := bounds_hm (Nat.le_refl segs1.length)
      have r3 : ∀ P Q R T : Box, callIso call 31 [.one (.p 4 0), vs N] [P, Q, R, T, .cells [.d (.l (fl1.map Fil.enc)), .d (.i .i64 cp1), .d (.b ar1), .d (.i .i64 lf1), .d (.b dn1), .d (.i .i64 0)]] = some (.tup [], [P, Q, R, T, .cells [.d (.l (fl2.map Fil.enc)), .d (.i .i64 cp2), .d (.b ar2), .d (.i .i64 lf2), .d (.b dn2), .d (.i .i64 e2)]]) := fun P Q R T =>
        iso_at (ids := [4]) rfl rfl rfl q3 rfl
      have r5 : ∀ P Q R T : Box, callIso call 33 [.one (.p 4 0), .agg [.d (.i .i64 (ver1 + 1)), .d (.l ((segs1.map Seg.base).map eI ++ [eI next1])), .d (.i .i64 size1), .d (.i .u32 sum1)]] [P, Q, R, T, .cells [.d (.l (fl2.map Fil.enc)), .d (.i .i64 cp2), .d (.b ar2), .d (.i .i64 lf2), .d (.b dn2), .d (.i .i64 e2)]] = some (.tup [], [P, Q, R, T, .cells [.d (.l (fl3.map Fil.enc)), .d (.i .i64 cp3), .d (.b ar3), .d (.i .i64 lf3), .d (.b dn3), .d (.i .i64 e3)]]) := fun P Q R T =>
        iso_at (ids := [4]) rfl rfl rfl q5 rfl
      have r6 : ∀ P Q R T : Box, callIso call 67 [.one (.p 4 0), vs N] [P, Q, R, T, .cells [.d (.l (fl3.map Fil.enc)), .d (.i .i64 cp3), .d (.b ar3), .d (.i .i64 lf3), .d (.b dn3), .d (.i .i64 e3)]] = some (.tup [], [P, Q, R, T, .cells [.d (.l (fl4.map Fil.enc)), .d (.i .i64 cp4), .d (.b ar4), .d (.i .i64 lf4), .d (.b dn4), .d (.i .i64 e4)]]) := fun P Q R T =>
        iso_at (ids := [4]) rfl rfl rfl q6 rfl
      by_cases c3 : e2 = 0
      · subst c3
        by_cases c4 : e4 = 0
        · subst c4
          (simp (disch:=first|decide|omega|(intros;exact Eq.trans rfl rfl)|(simp only[puri];done)) only [wkf, a57, q1, c1, hver, q2, hok, htk, hb, ↓r3, q4, ↓r5, ↓r6, go_sem, seval, dis, vdr, A.kind, A.xs, optX])
          try simp [trim]
          try rfl
        · (simp (disch:=first|decide|omega|(intros;exact Eq.trans rfl rfl)|(simp only[puri];done)) only [wkf, a57, q1, c1, hver, q2, hok, htk, hb, ↓r3, q4, ↓r5, ↓r6, c4, go_sem, seval, dis, vdr, A.kind, A.xs, optX])
          try simp [trim, c4]
      · (simp (disch:=first|decide|omega|(intros;exact Eq.trans rfl rfl)|(simp only[puri];done)) only [wkf, a57, q1, c1, hver, q2, hok, htk, hb, ↓r3, c3, go_sem, seval, dis, vdr, A.kind, A.xs, optX])
        try simp [trim, c3]
    · rw [if_pos c2]
      obtain ⟨⟨fl, cp, ar, lf, dn⟩, ver, segs, next, sure, size, sum⟩ := s
      obtain ⟨⟨fl1, cp1, ar1, lf1, dn1⟩, ver1, segs1, next1, sure1, size1, sum1⟩ := s1
      simp only at hsl
      subst hsl
      simp only [Dsk.l, Sto.l, stoV, List.cons_append, List.nil_append] at q1 c1 ⊢
      (simp (disch:=first|decide|omega|(intros;exact Eq.trans rfl rfl)|(simp only[puri];done)) only [wkf, a57, q1, c1, c2, go_sem, seval, dis, vdr, A.kind, A.xs, optX])
      try simp [trim]
end Go.Proofs.YtijnkmjbfekajaaGreat

namespace Go.Proofs.YtijnkmjbfekajaaGreat
open Go.Vi
theorem okS.up {k u k' u' : Nat} {s : Sto} (h : okS k u s) (hk : k ≤ k') (hu : u ≤ u') : okS k' u' s :=
  ⟨h.dsk.up hk hu, h.len, fun g hg => by have := h.seg g hg; omega, h.next, by have := h.ver; omega, h.sum⟩
theorem roll_okD {k u : Nat} {s : Sto} (h : okS k u s) : okN (k + 2) (u + 800) (rollD s).1 := by
  unfold rollD
  simp only []
  have k1 := crt_ok (s := (s.disk, 0)) h.dsk (fileN s.next)
  split
  · exact unl_ok (swap_okN k1 _) _
  · exact k1.up (by omega) (by omega)
theorem rollT_ok {k u : Nat} {s : Sto} (h : okS k u s) : okS (k + 2) (u + 800) (rollT s).1 := by
  unfold rollT
  have h1 := syncT_ok h
  have hsl : (syncT s).1.segs = s.segs := rfl
  split
  · exact h.up (by omega) (by omega)
  · rename_i c
    split
    · exact h1.up (by omega) (by omega)
    · have hd := roll_okD h1
      generalize (syncT s).1 = s1 at *
      have h2 := h1.up (k' := k + 2) (u' := u + 800) (by omega) (by omega)
      split
      · refine ⟨hd, ?_, ?_, h2.next, ?_, h2.sum⟩
        · show 1 ≤ (s1.segs ++ [_]).length ∧ (s1.segs ++ [_]).length ≤ 64
          rw [List.length_append, List.length_singleton, hsl]; omega
        · intro g hg
          rcases List.mem_append.1 hg with hg | hg
          · exact h2.seg g hg
          · rw [List.mem_singleton.1 hg]
            exact ⟨h1.next, by simp only []; omega, by simp only []; omega⟩
        · show 0 ≤ s1.ver + 1 ∧ s1.ver + 1 ≤ _
          have := h1.ver; omega
      · exact ⟨hd, h2.len, h2.seg, h2.next, h2.ver, h2.sum⟩
def putF (r : Rec) : Txt × Int := if whyF r = 0 then (frameF (bodyF r), 0) else ([], whyF r)
theorem putF_len (r : Rec) : (putF r).1.length ≤ 90 := by
  unfold putF
  split
  · rename_i h
    have hb := (why_fit.1 h).blen
    have h9 := nd_le9 (n := (bodyF r).length) (by omega)
    show (frameF (bodyF r)).length ≤ 90
    rw [frameF_len]; omega
  · simp
def addSeg (s : Sto) (n : Nat) : Sto := { s with segs := s.segs.dropLast ++ [⟨s.last.base, s.last.n + 1, s.last.size + n⟩], next := s.next + 1 }
def putT (t : Sto) (x : Txt) : Sto × Int :=
  let d := chgF t.disk (appR t.disk.files t.disk.cap (fileN t.last.base) x)
  if d.2 ≠ 0 then ({ t with disk := d.1 }, d.2) else ({ addSeg t x.length with disk := d.1 }, 0)
def appT (s : Sto) (seg : Int) (r : Rec) : Sto × Int :=
  if (putF r).2 ≠ 0 ∨ r.at_ ≠ s.next then (s, 1) else
    if 1099511627776 ≤ s.next then (s, 13) else
      if seg ≤ s.last.size then (if (rollT s).2 ≠ 0 then rollT s else putT (rollT s).1 (putF r).1) else putT s (putF r).1
theorem putT_ok {k u : Nat} {s : Sto} (h : okS k u s) (x : Txt) (hn : s.next < 1099511627776) : okS k (u + x.length + 1) (putT s x).1 := by
  have h1 := app_ok (s := (s.disk, 0)) h.dsk (fileN s.last.base) x
  have h2 : okN k (u + x.length + 1) (chgF s.disk (appR s.disk.files s.disk.cap (fileN s.last.base) x)).1 := okN.up (k := k) (u := u + x.length) h1 (Nat.le_refl _) (by omega)
  have h3 := h.up (k' := k) (u' := u + x.length + 1) (Nat.le_refl _) (by omega)
  unfold putT
  simp only []
  split
  · exact ⟨h2, h3.len, h3.seg, h3.next, h3.ver, h3.sum⟩
  · refine ⟨h2, ?_, ?_, ?_, h3.ver, h3.sum⟩
    · show 1 ≤ (s.segs.dropLast ++ [_]).length ∧ (s.segs.dropLast ++ [_]).length ≤ 64
      have := h.len
      rw [List.length_append, List.length_singleton, List.length_dropLast]; omega
    · intro g hg
      rcases List.mem_append.1 hg with hg | hg
      · exact h3.seg g (List.dropLast_subset _ hg)
      · rw [List.mem_singleton.1 hg]
        have := h.seg _ (last_mem h.len.1)
        exact ⟨this.1, by simp only []; omega, by simp only []; omega⟩
    · show 0 ≤ s.next + 1 ∧ s.next + 1 ≤ _
      have := h.next; omega
theorem appT_ok {k u : Nat} {s : Sto} (h : okS k u s) (seg : Int) (r : Rec) : okS (k + 2) (u + 1000) (appT s seg r).1 := by
  have hl := putF_len r
  unfold appT
  have hr := rollT_ok h
  split
  · exact h.up (by omega) (by omega)
  · split
    · exact h.up (by omega) (by omega)
    · rename_i c
      split
      · split
        · exact hr.up (by omega) (by omega)
        · have hn : (rollT s).1.next = s.next := by
            unfold rollT syncT rollX
            split
            · rfl
            · split
              · rfl
              · split <;> rfl
          exact (putT_ok hr _ (by rw [hn]; omega)).up (by omega) (by omega)
      · exact (putT_ok h _ (by omega)).up (by omega) (by omega)
end Go.Proofs.YtijnkmjbfekajaaGreat

namespace Go.Proofs.YtijnkmjbfekajaaGreat
open Go.Vi
theorem rollT_next (s : Sto) : (rollT s).1.next = s.next := by
  unfold rollT syncT rollX
  split
  · rfl
  · split
    · rfl
    · split <;> rfl
theorem dl_map (l : List Seg) : l.dropLast.map Seg.enc = (l.map Seg.enc).take (l.length - 1) := by
  rw [List.map_dropLast, List.dropLast_eq_take, List.length_map]
theorem ok_take (l : List Seg) (k : Nat) : okRows 3 ((l.map Seg.enc).take k) = true := by
  rw [← List.map_take]; exact okRows_map Seg.len _
set_option maxRecDepth 8000 in
theorem append_tail {k u : Nat} (s t : Sto) (h : okS k u s) (ht : okS k u t) (hn : t.next < 1099511627776) (hk : k ≤ 800000) (hu : u ≤ 800000000000) (seg : Int) (r : Rec) (tx : Txt) (hx : tx.length ≤ 90)
    (q1 : call 55 [.agg (r.enc.map .d)] [] = some (.tup [(false, [.d (.s tx)]), (false, [.d (.i .i64 0)])], [])) (c2 : r.at_ = s.next) (c3 : s.next < 1099511627776)
    (hc : (seg ≤ s.last.size ∧ rollT s = (t, 0)) ∨ (¬ seg ≤ t.last.size ∧ t = s)) :
    call 29 [.agg s.l, vi seg, .agg (r.enc.map .d)] [] = some (stoV (putT t tx), []) := by
  have q2 := last_spec s s.last (by have := h.len; omega) (last_q h.len.1)
  have q3 := roll_spec s h hk hu
  have q5 := last_spec t t.last (by have := ht.len; omega) (last_q ht.len.1)
  have q6 := seg_int (ht.seg _ (last_mem ht.len.1)).1
  have q7 := append_spec t.disk (ht.dsk.ok (by omega) (by omega)) (fileN t.last.base) tx (by omega)
  have q8 := fun d : Dsk => last_spec { t with disk := d } t.last (by have := ht.len; show t.segs.length ≤ _; omega) (last_q ht.len.1)
  have hsz := (ht.seg _ (last_mem ht.len.1)).2
  have hlen := ht.len
  have hnx := ht.next
  have hdl := dl_map t.segs
  have hok := ok_take t.segs (t.segs.length - 1)
  have hb := bounds_hm (n := t.segs.length) (k := t.segs.length - 1) (by omega)
  have hki : ((t.segs.length : Int) - 1) = ((t.segs.length - 1 : Nat) : Int) := by omega
  unfold putT addSeg
  simp only []
  generalize chgF t.disk (appR t.disk.files t.disk.cap (fileN t.last.base) tx) = d at *
  have q8 := q8 d.1
  generalize fileN t.last.base = N at *
  generalize t.last = g at *
  generalize s.last = g0 at *
  generalize rollT s = rr at *
  obtain ⟨b, n, z⟩ := g
  obtain ⟨b0, n0, z0⟩ := g0
  obtain ⟨⟨fl, cp, ar, lf, dn⟩, ver, segs, next, sure, size, sum⟩ := s
  obtain ⟨⟨fl1, cp1, ar1, lf1, dn1⟩, ver1, segs1, next1, sure1, size1, sum1⟩ := t
  obtain ⟨⟨fl2, cp2, ar2, lf2, dn2⟩, e2⟩ := d
  obtain ⟨at_, ti, da⟩ := r
  simp only [Rec.enc, Seg.enc, List.map_cons, List.map_nil, Sto.l, Dsk.l, dskV, List.cons_append, List.nil_append] at q1 q2 q3 q5 q6 q7 q8 c2 c3 hn hsz hlen hnx hdl hok hb hki hc ⊢
  subst c2
  have c3' : ¬ 1099511627776 ≤ at_ := by omega
  obtain ⟨Q, hQ⟩ : ∃ Q, (segs1.map Seg.enc).take (segs1.length - 1) = Q := ⟨_, rfl⟩
  have hQl : Q.length ≤ 64 := by rw [← hQ]; simp; omega
  rw [hQ] at hok hdl
  apply enterS s29 rfl
  rcases hc with ⟨c4, rfl⟩ | ⟨c4, he⟩
  · simp only [stoV, Sto.l, Dsk.l, List.cons_append, List.nil_append] at q3
    by_cases c5 : e2 = 0
    · subst c5
      (simp (disch:=first|decide|omega|(intros;exact Eq.trans rfl rfl)|(simp only[puri];done)) only [wkf, a29, q1, c3', q2, c4, q3, q5, q6, q7, q8, hki, hb, hok, hQ, go_sem, seval, dis, vdr, A.kind, A.xs, optX])
      try simp [trim, stoV, Sto.l, Dsk.l, hdl, Seg.enc]
    · (simp (disch:=first|decide|omega|(intros;exact Eq.trans rfl rfl)|(simp only[puri];done)) only [wkf, a29, q1, c3', q2, c4, q3, q5, q6, q7, q8, c5, go_sem, seval, dis, vdr, A.kind, A.xs, optX])
      try simp [trim, c5, stoV, Sto.l, Dsk.l]
  · simp only [Sto.mk.injEq, Dsk.mk.injEq] at he
    obtain ⟨⟨rfl, rfl, rfl, rfl, rfl⟩, rfl, rfl, rfl, rfl, rfl, rfl⟩ := he
    clear q2 q3
    by_cases c5 : e2 = 0
    · subst c5
      (simp (disch:=first|decide|omega|(intros;exact Eq.trans rfl rfl)|(simp only[puri];done)) only [wkf, a29, q1, c3', c4, q5, q6, q7, q8, hki, hb, hok, hQ, go_sem, seval, dis, vdr, A.kind, A.xs, optX])
      try simp [trim, stoV, Sto.l, Dsk.l, hdl, Seg.enc]
    · (simp (disch:=first|decide|omega|(intros;exact Eq.trans rfl rfl)|(simp only[puri];done)) only [wkf, a29, q1, c3', c4, q5, q6, q7, q8, c5, go_sem, seval, dis, vdr, A.kind, A.xs, optX])
      try simp [trim, c5, stoV, Sto.l, Dsk.l]
set_option maxRecDepth 8000 in
theorem append_sto {k u : Nat} (s : Sto) (h : okS k u s) (hk : k ≤ 700000) (hu : u ≤ 700000000000) (seg : Int) (r : Rec) (hr : r.ok) : call 29 [.agg s.l, vi seg, .agg (r.enc.map .d)] [] = some (stoV (appT s seg r), []) := by
  have q1 := putRec_spec r hr
  have hpl := putF_len r
  have e1 : putR r = .tup [(false, [.d (.s (putF r).1)]), (false, [.d (.i .i64 (putF r).2)])] := by unfold putR putF; split <;> rfl
  rw [e1] at q1
  unfold appT
  generalize putF r = p at *
  obtain ⟨tx, pe⟩ := p
  simp only at q1 hpl ⊢
  by_cases c1 : pe = 0
  · subst c1
    by_cases c2 : r.at_ = s.next
    · rw [if_neg (by simp [c2])]
      by_cases c3 : 1099511627776 ≤ s.next
      · rw [if_pos c3]
        obtain ⟨⟨fl, cp, ar, lf, dn⟩, ver, segs, next, sure, size, sum⟩ := s
        obtain ⟨at_, ti, da⟩ := r
        simp only [Rec.enc, List.map_cons, List.map_nil] at q1 c2 c3 ⊢
        subst c2
        apply enterS s29 rfl
        (simp (disch:=first|decide|omega|(intros;exact Eq.trans rfl rfl)|(simp only[puri];done)) only [wkf, a29, q1, c3, stoV, Sto.l, Dsk.l, go_sem, seval, dis])
        try simp [trim]
      · rw [if_neg c3]
        by_cases c4 : seg ≤ s.last.size
        · rw [if_pos c4]
          by_cases c5 : (rollT s).2 = 0
          · rw [if_neg (by simp [c5])]
            have hn : (rollT s).1.next = s.next := rollT_next s
            exact append_tail (k := k + 2) (u := u + 800) s (rollT s).1 (h.up (by omega) (by omega)) (rollT_ok h) (by rw [hn]; omega) (by omega) (by omega) seg r tx hpl q1 c2 (by omega) (.inl ⟨c4, by rw [← c5]⟩)
          · rw [if_pos c5]
            have q2 := last_spec s s.last (by have := h.len; omega) (last_q h.len.1)
            have q3 := roll_spec s h (by omega) (by omega)
            generalize rollT s = t at *
            generalize s.last = g at *
            obtain ⟨b, n, z⟩ := g
            obtain ⟨⟨fl, cp, ar, lf, dn⟩, ver, segs, next, sure, size, sum⟩ := s
            obtain ⟨⟨⟨fl1, cp1, ar1, lf1, dn1⟩, ver1, segs1, next1, sure1, size1, sum1⟩, e⟩ := t
            obtain ⟨at_, ti, da⟩ := r
            simp only [Rec.enc, Seg.enc, List.map_cons, List.map_nil, Sto.l, Dsk.l, stoV, List.cons_append, List.nil_append] at q1 q2 q3 c2 c3 c4 c5 ⊢
            subst c2
            apply enterS s29 rfl
            (simp (disch:=first|decide|omega|(intros;exact Eq.trans rfl rfl)|(simp only[puri];done)) only [wkf, a29, q1, c3, q2, c4, q3, c5, go_sem, seval, dis])
            try simp [trim, c5]
        · rw [if_neg c4]
          exact append_tail (k := k) (u := u) s s h h (by omega) (by omega) (by omega) seg r tx hpl q1 c2 (by omega) (.inr ⟨c4, rfl⟩)
    · rw [if_pos (.inr c2)]
      obtain ⟨⟨fl, cp, ar, lf, dn⟩, ver, segs, next, sure, size, sum⟩ := s
      obtain ⟨at_, ti, da⟩ := r
      simp only [Rec.enc, List.map_cons, List.map_nil] at q1 c2 ⊢
      apply enterS s29 rfl
      (simp (disch:=first|decide|omega|(intros;exact Eq.trans rfl rfl)|(simp only[puri];done)) only [wkf, a29, q1, c2, stoV, Sto.l, Dsk.l, go_sem, seval, dis])
      try simp [trim]
  · rw [if_pos (.inl c1)]
    obtain ⟨⟨fl, cp, ar, lf, dn⟩, ver, segs, next, sure, size, sum⟩ := s
    obtain ⟨at_, ti, da⟩ := r
    simp only [Rec.enc, List.map_cons, List.map_nil] at q1 ⊢
    apply enterS s29 rfl
    (simp (disch:=first|decide|omega|(intros;exact Eq.trans rfl rfl)|(simp only[puri];done)) only [wkf, a29, q1, c1, stoV, Sto.l, Dsk.l, go_sem, seval, dis])
    try simp [trim]
end Go.Proofs.YtijnkmjbfekajaaGreat

namespace Go.Proofs.YtijnkmjbfekajaaGreat
open Go.Vi
theorem readF_len (l : List Fil) (n : Txt) : (readF l n).1.length ≤ usedF l := by
  unfold readF
  split
  · rename_i f hf
    split
    · obtain ⟨h, rfl⟩ := List.getElem?_eq_some_iff.1 hf
      have h1 := used_take l (posF l n + 1)
      rw [List.take_succ_eq_append_getElem h, used_app, used_one] at h1
      simp only []; omega
    · simp
  · simp
def Sto.floor (s : Sto) : Int := match s.segs with | [] => 0 | g :: _ => g.base
def Sto.txt (s : Sto) (g : Seg) : Txt := (readF s.disk.files (fileN g.base)).1
def readT (s : Sto) (off : Int) : V :=
  if off < 0 ∨ s.next ≤ off then readL [] off else
    if off < s.floor then .tup [(true, [.d (.i .i64 0), .d (.i .i64 0), .d (.s [])]), (false, [.d (.i .i64 11)])] else
      readL ((scanS (s.txt (s.hld off)) (s.hld off).base).1.map (·.1)) off
theorem hldF_mem (off : Int) : ∀ (k : Nat) (l : List Seg), k < l.length → hldF l off k ⟨0, 0, 0⟩ ∈ l
  | 0, [], h => by cases h
  | 0, g :: l, h => by simp [hldF]
  | k + 1, l, h => by
    simp only [hldF, List.getElem?_eq_getElem h]
    split
    · exact hldF_mem off k l (by omega)
    · exact List.getElem_mem h
theorem hld_mem {s : Sto} (h : 1 ≤ s.segs.length) (off : Int) : s.hld off ∈ s.segs := hldF_mem off _ _ (by omega)
theorem readL_two (l : List Rec) (off : Int) : ∃ (r : Rec) (e : Int), readL l off = .tup [(true, r.enc.map .d), (false, [.d (.i .i64 e)])] := by
  unfold readL
  cases h : l.find? fun r => decide (r.at_ = off) with
  | some r => exact ⟨r, 0, rfl⟩
  | none => exact ⟨⟨0, 0, []⟩, 6, rfl⟩
set_option maxRecDepth 8000 in
theorem read_sto {k u : Nat} (s : Sto) (h : okS k u s) (hk : k ≤ 800000) (hu : u ≤ 1000000) (off : Int) : call 18 [.agg s.l, vi off] [] = some (readT s off, []) := by
  have q1 : call 13 [.agg s.l] [] = some (vi s.floor, []) := floor_spec s
  have q2 := holder_spec s off (by have := h.len; omega) (by have := h.len; omega)
  have hg := h.seg _ (hld_mem h.len.1 off)
  have q3 := seg_int hg.1
  have q4 := read_disk s.disk (Nat.le_trans h.dsk.len (by omega)) h.dsk.srt (fileN (s.hld off).base)
  have hl : (s.txt (s.hld off)).length ≤ 1000000 := Nat.le_trans (readF_len _ _) (Nat.le_trans h.dsk.used hu)
  have q5 := index_spec (s.txt (s.hld off)) hl (s.hld off).base 8 (by omega) (by decide)
  have q6 := readIdx_spec (s.txt (s.hld off)) hl (s.hld off).base 8 off (by decide)
  have e2 : (readF s.disk.files (fileN (s.hld off).base)).1 = s.txt (s.hld off) := rfl
  rw [e2] at q4
  unfold readT
  generalize hrl : readL ((scanS (s.txt (s.hld off)) (s.hld off).base).1.map (·.1)) off = RL at *
  have hRL : ∃ (r : Rec) (e : Int), RL = .tup [(true, r.enc.map .d), (false, [.d (.i .i64 e)])] := by rw [← hrl]; exact readL_two _ _
  clear hrl
  obtain ⟨r0, e0, rfl⟩ := hRL
  generalize indexS (s.txt (s.hld off)) (s.hld off).base 8 = I at *
  generalize s.txt (s.hld off) = T at *
  generalize (readF s.disk.files (fileN (s.hld off).base)).2 = re at *
  generalize fileN (s.hld off).base = N at *
  generalize s.hld off = g at *
  generalize s.floor = fl0 at *
  obtain ⟨b, n, z⟩ := g
  obtain ⟨⟨fl, cp, ar, lf, dn⟩, ver, segs, next, sure, size, sum⟩ := s
  obtain ⟨ra, rt, rd⟩ := r0
  simp only [Seg.enc, Rec.enc, List.map_cons, List.map_nil, Sto.l, Dsk.l, List.cons_append, List.nil_append] at q1 q2 q3 q4 q5 q6 ⊢
  apply enterS s18 rfl
  by_cases c1 : off < 0
  · rw [if_pos (.inl c1)]
    (simp (disch:=first|decide|omega|(intros;exact Eq.trans rfl rfl)|(simp only[puri];done)) only [wkf, a18, c1, go_sem, seval, dis])
    try simp [trim, readL]
  · by_cases c2 : next ≤ off
    · rw [if_pos (.inr c2)]
      (simp (disch:=first|decide|omega|(intros;exact Eq.trans rfl rfl)|(simp only[puri];done)) only [wkf, a18, c1, c2, go_sem, seval, dis])
      try simp [trim, readL]
    · rw [if_neg (by simp [c1, c2])]
      by_cases c3 : off < fl0
      · rw [if_pos c3]
        (simp (disch:=first|decide|omega|(intros;exact Eq.trans rfl rfl)|(simp only[puri];done)) only [wkf, a18, c1, c2, q1, c3, go_sem, seval, dis])
        try simp [trim]
      · rw [if_neg c3]
        (simp (disch:=first|decide|omega|(intros;exact Eq.trans rfl rfl)|(simp only[puri];done)) only [wkf, a18, c1, c2, q1, c3, q2, q3, q4, q5, q6, go_sem, seval, dis])
        try simp [trim]
end Go.Proofs.YtijnkmjbfekajaaGreat

namespace Go.Proofs.YtijnkmjbfekajaaGreat
open Go.Vi
def hasD (l : List Fil) (n d : Txt) : Prop := ∃ f ∈ l, f.name = n ∧ f.data = d
theorem read_hasD {l : List Fil} {n d : Txt} (hs : srt l) (h : hasD l n d) : readF l n = (d, 0) := by
  obtain ⟨f, hf, rfl, rfl⟩ := h
  obtain ⟨i, hi, rfl⟩ := List.getElem_of_mem hf
  unfold readF
  rw [pos_of hs i hi, List.getElem?_eq_getElem hi]
  simp
theorem chg_res {d : Dsk} {r : List Fil × Int} (h : (chgF d r).2 = 0) : r.2 = 0 ∧ (chgF d r).1.files = r.1 := by
  unfold chgF at h ⊢
  split at h
  · cases h
  · rename_i h1
    split at h
    · rename_i h2; exact absurd h h2
    · rename_i h2
      rw [if_neg h1, if_neg h2]
      split at h
      · rename_i h3
        split at h
        · cases h
        · rename_i h4
          rw [if_pos h3, if_neg h4]
          exact ⟨by simpa using h2, rfl⟩
      · rename_i h3
        rw [if_neg h3]
        exact ⟨by simpa using h2, rfl⟩
theorem chg_keep {d : Dsk} {r : List Fil × Int} {n x : Txt} (h : hasD d.files n x) (hr : r.2 = 0 → hasD r.1 n x) : hasD (chgF d r).1.files n x := by
  unfold chgF
  split
  · exact h
  · split
    · exact h
    · rename_i h2
      have h3 := hr (by simpa using h2)
      split
      · split
        · exact h
        · exact h3
      · exact h3
theorem ins_hasD {l : List Fil} {n x : Txt} (k : Nat) (g : Fil) (h : hasD l n x) : hasD (insF l k g) n x := by
  obtain ⟨f, hf, h1⟩ := h
  refine ⟨f, ?_, h1⟩
  unfold insF
  rw [← List.take_append_drop k l] at hf
  rcases List.mem_append.1 hf with hf | hf
  · exact List.mem_append_left _ hf
  · exact List.mem_append_right _ (List.mem_cons_of_mem _ hf)
theorem ins_new (l : List Fil) (k : Nat) (g : Fil) : hasD (insF l k g) g.name g.data := ⟨g, by unfold insF; simp, rfl, rfl⟩
theorem set_hasD {l : List Fil} {n x : Txt} (k : Nat) (hk : k < l.length) (g : Fil) (h : hasD l n x) (hn : l[k].name ≠ n) : hasD (l.set k g) n x := by
  obtain ⟨f, hf, h1, h2⟩ := h
  obtain ⟨i, hi, rfl⟩ := List.getElem_of_mem hf
  have hne : k ≠ i := fun e => by subst e; exact hn h1
  refine ⟨l[i], ?_, h1, h2⟩
  have e : l[i] = (l.set k g)[i]'(by simpa using hi) := by rw [List.getElem_set_ne hne]
  rw [e]; exact List.getElem_mem _
theorem mem_set1 {l : List Fil} {k : Nat} (hk : k < l.length) (g : Fil) : g ∈ l.set k g := by
  have hm : (l.set k g)[k]'(by simpa using hk) ∈ l.set k g := List.getElem_mem _
  rwa [List.getElem_set_self] at hm
theorem set_new {l : List Fil} (k : Nat) (hk : k < l.length) (g : Fil) : hasD (l.set k g) g.name g.data := by
  exact ⟨g, mem_set1 hk g, rfl, rfl⟩
theorem del_hasD {l : List Fil} {n x : Txt} (k : Nat) (hk : k < l.length) (h : hasD l n x) (hn : l[k].name ≠ n) : hasD (delF l k) n x := by
  obtain ⟨f, hf, h1, h2⟩ := h
  refine ⟨f, ?_, h1, h2⟩
  have e : l = l.take k ++ ([l[k]] ++ l.drop (k + 1)) := by rw [List.singleton_append, ← List.drop_eq_getElem_cons hk, List.take_append_drop]
  rw [e] at hf
  unfold delF
  rcases List.mem_append.1 hf with hf | hf
  · exact List.mem_append_left _ hf
  · rcases List.mem_append.1 hf with hf | hf
    · rw [List.mem_singleton.1 hf] at h1; exact absurd h1 hn
    · exact List.mem_append_right _ hf
theorem stp_keep {s : Dsk × Int} {f : Dsk → Dsk × Int} {n x : Txt} (h : hasD s.1.files n x) (hf : hasD (f s.1).1.files n x) : hasD (stp s f).1.files n x := by
  unfold stp; split
  · exact hf
  · exact h
theorem crt_keep {s : Dsk × Int} {n x : Txt} (m : Txt) (h : hasD s.1.files n x) : hasD (crtS m s).1.files n x := by
  refine stp_keep h (chg_keep h fun h0 => ?_)
  unfold crtR at h0 ⊢
  split at h0
  · rename_i h1
    split at h0
    · cases h0
    · rename_i h2
      rw [if_pos h1, if_neg h2]; exact ins_hasD _ _ h
  · cases h0
theorem del_keep {s : Dsk × Int} {n x m : Txt} (hm : m ≠ n) (h : hasD s.1.files n x) : hasD (delS m s).1.files n x := by
  refine stp_keep h (chg_keep h fun h0 => ?_)
  unfold delR at h0 ⊢
  split at h0
  · rename_i h1
    obtain ⟨hp, he⟩ := has_at h1
    rw [if_pos h1]; exact del_hasD _ hp h (by rw [he]; exact hm)
  · cases h0
theorem syn_keep {s : Dsk × Int} {n x : Txt} (hs : srt s.1.files) (m : Txt) (h : hasD s.1.files n x) : hasD (synS m s).1.files n x := by
  refine stp_keep h (chg_keep h fun h0 => ?_)
  unfold synR at h0 ⊢
  split at h0
  · rename_i h1
    obtain ⟨hp, he⟩ := has_at h1
    rw [if_pos h1, upd_at hp]
    by_cases hm : m = n
    · have hr := read_hasD hs h
      unfold readF at hr
      rw [← hm, List.getElem?_eq_getElem hp] at hr
      simp only [he, if_true, Prod.mk.injEq, and_true] at hr
      refine (?_ : ∀ G : Fil, G.name = n → G.data = x → hasD (s.1.files.set (posF s.1.files m) G) n x) _ (he.trans hm) hr
      rintro G rfl rfl; exact set_new _ hp G
    · exact set_hasD _ hp _ h (by rw [he]; exact hm)
  · cases h0
theorem app_keep {s : Dsk × Int} {n x m : Txt} (hm : m ≠ n) (t : Txt) (h : hasD s.1.files n x) : hasD (appS m t s).1.files n x := by
  refine stp_keep h (chg_keep h fun h0 => ?_)
  unfold appR at h0 ⊢
  split at h0
  · rename_i h1
    split at h0
    · cases h0
    · rename_i h2
      obtain ⟨hp, he⟩ := has_at h1
      rw [if_pos h1, if_neg h2, upd_at hp]
      exact set_hasD _ hp _ h (by rw [he]; exact hm)
  · cases h0
theorem ren_keep {s : Dsk × Int} {n x m t : Txt} (hm : m ≠ n) (ht : t ≠ n) (h : hasD s.1.files n x) : hasD (renS m t s).1.files n x := by
  refine stp_keep h (chg_keep h fun h0 => ?_)
  unfold renR at h0 ⊢
  split at h0
  · rename_i h1
    split at h0
    · rename_i h2
      obtain ⟨hp, he⟩ := has_at h1
      rw [if_pos h1, if_pos h2]
      have h3 := del_hasD _ hp h (by rw [he]; exact hm)
      unfold putAt
      split
      · rename_i h4
        obtain ⟨hp4, he4⟩ := has_at h4
        exact set_hasD _ hp4 _ h3 (by rw [he4, nameAt_name]; exact ht)
      · exact ins_hasD _ _ h3
    · cases h0
  · cases h0
theorem unl_keep {s : Dsk × Int} {n x m : Txt} (hm : m ≠ n) (h : hasD s.1.files n x) : hasD (unlS m s).1.files n x := by
  unfold unlS
  split
  · exact h
  · split
    · exact del_keep (s := (s.1, 0)) hm h
    · exact del_keep (s := (s.1, 0)) hm h
theorem swap_keep {k u : Nat} {s : Dsk × Int} (hd : okN k u s.1) {n x : Txt} (m : Man) (h1 : [110] ≠ n) (h2 : [109] ≠ n) (h : hasD s.1.files n x) : hasD (swapS m s).1.files n x := by
  unfold swapS
  have h3 : hasD (if s.2 = 0 then (s.1, (manPut m).2) else s).1.files n x := by split <;> exact h
  have k1 : okN k u (if s.2 = 0 then (s.1, (manPut m).2) else s).1 := by split <;> exact hd
  generalize (if s.2 = 0 then (s.1, (manPut m).2) else s) = s1 at *
  have h4 : hasD (if (readF s1.1.files [110]).2 = 0 then delS [110] s1 else s1).1.files n x := by
    split
    · exact del_keep h1 h3
    · exact h3
  have k2 : okN k u (if (readF s1.1.files [110]).2 = 0 then delS [110] s1 else s1).1 := by
    split
    · exact del_okN k1 _
    · exact k1
  simp only []
  generalize (if (readF s1.1.files [110]).2 = 0 then delS [110] s1 else s1) = s2 at *
  have h5 := crt_keep [110] h4
  have k3 := crt_ok k2 [110]
  split
  · exact h5
  · exact ren_keep h1 h2 (syn_keep (unl_ok (app_ok k3 [110] (manPut m).1) [110]).srt _ (unl_keep h1 (app_keep h1 _ h5)))
theorem app_new {d : Dsk} {n x t : Txt} (hs : srt d.files) (h : hasD d.files n x) (h0 : (chgF d (appR d.files d.cap n t)).2 = 0) : hasD (chgF d (appR d.files d.cap n t)).1.files n (x ++ t) := by
  obtain ⟨h1, h2⟩ := chg_res h0
  rw [h2]
  unfold appR at h1 ⊢
  split at h1
  · rename_i h3
    split at h1
    · cases h1
    · rename_i h4
      obtain ⟨hp, he⟩ := has_at h3
      have hr := read_hasD hs h
      unfold readF at hr
      rw [List.getElem?_eq_getElem hp] at hr
      simp only [he, if_true, Prod.mk.injEq, and_true] at hr
      rw [if_pos h3, if_neg h4, upd_at hp]
      refine (?_ : ∀ G : Fil, G.name = n → G.data = x ++ t → hasD (d.files.set (posF d.files n) G) n (x ++ t)) _ he (by simp [hr])
      rintro G rfl hG; rw [← hG]; exact set_new _ hp G
  · cases h1
theorem crt_new {d : Dsk} {n : Txt} (h0 : (crtS n (d, 0)).2 = 0) : hasD (crtS n (d, 0)).1.files n [] := by
  unfold crtS stp at h0 ⊢
  rw [if_pos rfl] at h0 ⊢
  obtain ⟨h1, h2⟩ := chg_res h0
  rw [h2]
  unfold crtR at h1 ⊢
  split at h1
  · rename_i h3
    split at h1
    · cases h1
    · rename_i h4
      rw [if_pos h3, if_neg h4]
      exact ins_new _ _ ⟨n, [], 0⟩
  · cases h1
theorem digN_lt (n j : Nat) : digN n j < 58 := by unfold digN; omega
theorem nameF_dig {a b : Nat} (h : nameF 115 a = nameF 115 b) (j : Nat) (hj : j < 13) : a / 10 ^ (12 - j) % 10 = b / 10 ^ (12 - j) % 10 := by
  unfold nameF at h
  simp only [List.cons.injEq, true_and] at h
  have h1 := List.map_inj_left.1 h j (by simpa using hj)
  have h2 := congrArg UInt8.toNat h1
  have ha := digN_lt a (j + 1)
  have hb := digN_lt b (j + 1)
  rw [UInt8.toNat_ofNat_of_lt' (by show _ < 256; omega), UInt8.toNat_ofNat_of_lt' (by show _ < 256; omega)] at h2
  unfold digN at h2
  have e : 13 - (j + 1) = 12 - j := by omega
  rw [e] at h2; omega
theorem nameF_inj {a b : Nat} (ha : a < 10 ^ 13) (hb : b < 10 ^ 13) (h : nameF 115 a = nameF 115 b) : a = b := by
  have key : ∀ k, k ≤ 13 → a / 10 ^ (13 - k) = b / 10 ^ (13 - k) := by
    intro k
    induction k with
    | zero => intro _; rw [Nat.div_eq_of_lt ha, Nat.div_eq_of_lt hb]
    | succ k ih =>
      intro hk
      have h1 := ih (by omega)
      have h2 := nameF_dig h k (by omega)
      have e : 13 - k = (12 - k) + 1 := by omega
      have e2 : 13 - (k + 1) = 12 - k := by omega
      rw [e, Nat.pow_succ, ← Nat.div_div_eq_div_mul, ← Nat.div_div_eq_div_mul] at h1
      rw [e2]
      omega
  have := key 13 (by omega)
  simpa using this
theorem fileN_inj {a b : Int} (ha : 0 ≤ a ∧ a ≤ 1099511627776) (hb : 0 ≤ b ∧ b ≤ 1099511627776) (h : fileN a = fileN b) : a = b := by
  have := nameF_inj (a := a.toNat) (b := b.toNat) (by omega) (by omega) h
  omega
theorem fileN_n (a : Int) (c : UInt8) : [c] ≠ fileN a := fun h => by
  have := congrArg List.length h
  simp [fileN, nameF] at this
end Go.Proofs.YtijnkmjbfekajaaGreat

namespace Go.Proofs.YtijnkmjbfekajaaGreat
open Go.Vi
abbrev SR := Seg × List Rec
def chainM : Int → List SR → Int → Prop
  | b, [], e => b = e
  | b, p :: M, e => p.1.base = b ∧ 1 ≤ p.2.length ∧ chainM (b + p.2.length) M e
theorem chain_snoc : ∀ (M : List SR) (b : Int) (p : SR) (e : Int), chainM b (M ++ [p]) e ↔ (chainM b M p.1.base ∧ 1 ≤ p.2.length ∧ p.1.base + p.2.length = e)
  | [], b, p, e => by
    simp only [List.nil_append, chainM]
    constructor
    · rintro ⟨rfl, h2, h3⟩; exact ⟨rfl, h2, h3⟩
    · rintro ⟨rfl, h2, h3⟩; exact ⟨rfl, h2, h3⟩
  | q :: M, b, p, e => by
    simp only [List.cons_append, chainM, chain_snoc M]
    constructor
    · rintro ⟨h1, h2, h3, h4, h5⟩; exact ⟨⟨h1, h2, h3⟩, h4, h5⟩
    · rintro ⟨⟨h1, h2, h3⟩, h4, h5⟩; exact ⟨h1, h2, h3, h4, h5⟩
theorem chain_mem : ∀ (M : List SR) (b e : Int), chainM b M e → b ≤ e ∧ ∀ p ∈ M, b ≤ p.1.base ∧ p.1.base + p.2.length ≤ e ∧ 1 ≤ p.2.length
  | [], b, e, h => ⟨by simp only [chainM] at h; omega, fun _ h => by cases h⟩
  | q :: M, b, e, h => by
    obtain ⟨h1, h2, h3⟩ := h
    obtain ⟨h4, h5⟩ := chain_mem M _ _ h3
    refine ⟨by omega, fun p hp => ?_⟩
    rcases List.mem_cons.1 hp with rfl | hp
    · exact ⟨by omega, by omega, h2⟩
    · have := h5 p hp; exact ⟨by omega, this.2.1, this.2.2⟩
def recsM (M : List SR) : List Rec := M.flatMap (·.2)
theorem recsM_app (M N : List SR) : recsM (M ++ N) = recsM M ++ recsM N := List.flatMap_append
theorem recsM_one (p : SR) : recsM [p] = p.2 := by simp [recsM]
theorem chain_len : ∀ (M : List SR) (b e : Int), chainM b M e → b + (recsM M).length = e
  | [], b, e, h => by simpa [recsM, chainM] using h
  | q :: M, b, e, h => by
    obtain ⟨h1, h2, h3⟩ := h
    have := chain_len M _ _ h3
    have e1 : recsM (q :: M) = q.2 ++ recsM M := rfl
    rw [e1, List.length_append]; omega
theorem hldF_app (off : Int) : ∀ (k : Nat) (a c : List Seg) (z : Seg), k < a.length → hldF (a ++ c) off k z = hldF a off k z
  | 0, [], c, z, h => by cases h
  | 0, x :: a, c, z, _ => rfl
  | k + 1, a, c, z, h => by
    have e1 : (a ++ c)[k + 1]? = a[k + 1]? := List.getElem?_append_left h
    simp only [hldF, e1, hldF_app off k a c z (by omega)]
theorem hld_loc (off f : Int) : ∀ (n : Nat) (M : List SR) (g : Seg) (l : List Rec), M.length = n → chainM f M g.base → f ≤ off → off < g.base + l.length →
    ∃ p ∈ M ++ [(g, l)], hldF (M.map (·.1) ++ [g]) off M.length ⟨0, 0, 0⟩ = p.1 ∧ p.1.base ≤ off ∧ off < p.1.base + p.2.length ∧ f ≤ p.1.base ∧ ∀ j, j < p.2.length → (recsM (M ++ [(g, l)]))[(p.1.base - f).toNat + j]? = p.2[j]? := by
  intro n
  induction n with
  | zero =>
    intro M g l hM hc h1 h2
    obtain rfl : M = [] := List.length_eq_zero_iff.1 hM
    simp only [chainM] at hc
    refine ⟨(g, l), by simp, rfl, by simp only []; omega, h2, by simp only []; omega, fun j hj => ?_⟩
    simp [recsM, hc]
  | succ n ih =>
    intro M g l hM hc h1 h2
    by_cases c : off < g.base
    · obtain ⟨M', p, rfl⟩ : ∃ M' p, M = M' ++ [p] := ⟨M.dropLast, M.getLast (by intro e; rw [e] at hM; cases hM), (List.dropLast_concat_getLast _).symm⟩
      have hl : M'.length = n := by simpa using hM
      obtain ⟨h3, h4, h5⟩ := (chain_snoc _ _ _ _).1 hc
      obtain ⟨q, hq, e1, e2, e3, e4, e7⟩ := ih M' p.1 p.2 hl h3 h1 (by omega)
      refine ⟨q, List.mem_append_left _ hq, ?_, e2, e3, e4, fun j hj => ?_⟩
      · have e5 : (M' ++ [p]).length = M'.length + 1 := by simp
        have e6 : ((M' ++ [p]).map (·.1) ++ [g])[M'.length + 1]? = some g := by simp
        rw [e5]
        simp only [hldF, e6]
        rw [if_pos c, hldF_app _ _ _ _ _ (by simp), List.map_append]
        exact e1
      · have hlen := chain_len _ _ _ hc
        have hmem := chain_mem _ _ _ hc
        have hqb : q.1.base + q.2.length ≤ g.base := by
          rcases List.mem_append.1 hq with hq | hq
          · exact (hmem.2 q (List.mem_append_left _ hq)).2.1
          · rw [List.mem_singleton.1 hq]; exact (hmem.2 p (by simp)).2.1
        rw [recsM_app, List.getElem?_append_left (by omega)]
        exact e7 j hj
    · have hlen := chain_len _ _ _ hc
      refine ⟨(g, l), by simp, ?_, by simp only []; omega, h2, by simp only []; omega, fun j hj => ?_⟩
      · obtain ⟨j, hj⟩ : ∃ j, M.length = j + 1 := ⟨n, hM⟩
        have e6 : (M.map (·.1) ++ [g])[j + 1]? = some g := by rw [← hj]; simp
        rw [hj]
        simp only [hldF, e6]
        rw [if_neg c]
      · show (recsM (M ++ [(g, l)]))[(g.base - f).toNat + j]? = l[j]?
        rw [recsM_app, List.getElem?_append_right (by omega), recsM_one]
        congr 1; omega
structure fileOk (fs : List Fil) (p : SR) : Prop where
  has : hasD fs (fileN p.1.base) (rowS p.2)
  why : ∀ r ∈ p.2, whyF r = 0
  num : numB p.1.base p.2
  n : p.1.n = p.2.length
  size : p.1.size = (rowS p.2).length
structure Inv (f : Int) (s : Sto) (M : List SR) (g : Seg) (l : List Rec) : Prop where
  segs : s.segs = M.map (·.1) ++ [g]
  file : ∀ p ∈ M ++ [(g, l)], fileOk s.disk.files p
  chain : chainM f M g.base
  next : s.next = g.base + l.length
  sure : 0 ≤ s.sure ∧ s.sure ≤ s.next
theorem find_num {b : Int} {l : List Rec} (h : numB b l) (k : Nat) (hk : k < l.length) : l.find? (fun r => decide (r.at_ = b + k)) = some l[k] := by
  rw [List.find?_eq_some_iff_getElem]
  refine ⟨by simpa using h k hk, k, hk, rfl, fun j hj => ?_⟩
  have := h j (by omega)
  simp only [Bool.not_eq_true', decide_eq_false_iff_not]; omega
theorem read_inv {k u : Nat} {f : Int} {s : Sto} {M : List SR} {g : Seg} {l : List Rec} (ho : okS k u s) (h : Inv f s M g l) (off : Int) (h1 : f ≤ off) (h2 : off < s.next) :
    ∃ r, (recsM (M ++ [(g, l)]))[(off - f).toNat]? = some r ∧ r.at_ = off ∧ whyF r = 0 ∧ readT s off = .tup [(true, r.enc.map .d), (false, [.d (.i .i64 0)])] := by
  obtain ⟨p, hp, e1, e2, e3, e6, e4⟩ := hld_loc off f _ M g l rfl h.chain h1 (by have := h.next; omega)
  have hf := h.file p hp
  have hk : (off - p.1.base).toNat < p.2.length := by omega
  have e4 := e4 _ hk
  have e7 : (p.1.base - f).toNat + (off - p.1.base).toNat = (off - f).toNat := by omega
  rw [e7, List.getElem?_eq_getElem hk] at e4
  have hld : s.hld off = p.1 := by
    unfold Sto.hld
    rw [h.segs]
    simp only [List.length_append, List.length_map, List.length_singleton, Nat.add_sub_cancel]
    exact e1
  have hpm : p.1 ∈ s.segs := by
    rw [h.segs]
    rcases List.mem_append.1 hp with hp | hp
    · exact List.mem_append_left _ (List.mem_map_of_mem hp)
    · rw [List.mem_singleton.1 hp]; simp
  have hb := (ho.seg _ hpm).1
  refine ⟨_, e4, by rw [hf.num _ hk]; omega, hf.why _ (List.getElem_mem hk), ?_⟩
  have hfl : s.floor ≤ off := by
    have : s.floor = f := by
      unfold Sto.floor
      rw [h.segs]
      cases hM : M with
      | nil => have := h.chain; rw [hM] at this; simp only [chainM] at this; simp [this]
      | cons q M' => have := h.chain; rw [hM] at this; simp [this.1]
    omega
  unfold readT
  rw [if_neg (by omega), if_neg (by omega), hld]
  have ht : s.txt p.1 = rowS p.2 := by
    unfold Sto.txt
    rw [read_hasD ho.dsk.srt hf.has]
  rw [ht, (scan_row p.2 p.1.base (by simp [offN]; omega) hf.why hf.num).1]
  unfold readL
  have hfn := find_num hf.num _ hk
  have e5 : p.1.base + (((off - p.1.base).toNat : Nat) : Int) = off := by omega
  rw [e5] at hfn
  rw [hfn]
end Go.Proofs.YtijnkmjbfekajaaGreat

namespace Go.Proofs.YtijnkmjbfekajaaGreat
open Go.Vi
theorem chg_fail {d : Dsk} {r : List Fil × Int} (h : (chgF d r).2 ≠ 0) : (chgF d r).1.files = d.files := by
  unfold chgF at h ⊢
  split
  · rfl
  · rename_i h1
    rw [if_neg h1] at h
    split
    · rfl
    · rename_i h2
      rw [if_neg h2] at h
      split
      · rename_i h3
        rw [if_pos h3] at h
        split
        · rfl
        · rename_i h4; rw [if_neg h4] at h; exact absurd rfl h
      · rename_i h3; rw [if_neg h3] at h; exact absurd rfl h
theorem fileOk.keep {fs fs' : List Fil} {p : SR} (h : fileOk fs p) (hk : hasD fs (fileN p.1.base) (rowS p.2) → hasD fs' (fileN p.1.base) (rowS p.2)) : fileOk fs' p := ⟨hk h.has, h.why, h.num, h.n, h.size⟩
theorem Inv.last {f : Int} {s : Sto} {M : List SR} {g : Seg} {l : List Rec} (h : Inv f s M g l) : s.last = g := by
  unfold Sto.last; rw [h.segs]; simp
theorem Inv.disk {f : Int} {s : Sto} {M : List SR} {g : Seg} {l : List Rec} (h : Inv f s M g l) (d : Dsk) (hk : ∀ p ∈ M ++ [(g, l)], hasD s.disk.files (fileN p.1.base) (rowS p.2) → hasD d.files (fileN p.1.base) (rowS p.2)) : Inv f { s with disk := d } M g l :=
  ⟨h.segs, fun p hp => (h.file p hp).keep (hk p hp), h.chain, h.next, h.sure⟩
theorem sync_inv {k u : Nat} {f : Int} {s : Sto} {M : List SR} {g : Seg} {l : List Rec} (ho : okS k u s) (h : Inv f s M g l) (hn : 0 ≤ s.next) : Inv f (syncT s).1 M g l := by
  have h1 : Inv f { s with disk := (chgF s.disk (synR s.disk.files (fileN s.last.base))).1 } M g l := h.disk _ fun p _ hd => syn_keep (s := (s.disk, 0)) ho.dsk.srt _ hd
  refine ⟨h1.segs, h1.file, h1.chain, h1.next, ?_⟩
  unfold syncT
  simp only []
  have := h.sure
  split <;> omega
theorem sync_sure {s : Sto} (h : (syncT s).2 = 0) : (syncT s).1.sure = s.next := by
  unfold syncT at h ⊢
  simp only [] at h ⊢
  rw [if_pos h]
theorem sync_mono {k u : Nat} {s : Sto} (ho : okS k u s) (h : s.sure ≤ s.next) : s.sure ≤ (syncT s).1.sure := by
  unfold syncT
  simp only []
  split <;> omega
theorem rollD_keep {k u : Nat} {s : Sto} (ho : okS k u s) {n x : Txt} (h1 : [110] ≠ n) (h2 : [109] ≠ n) (h3 : fileN s.next ≠ n) (h : hasD s.disk.files n x) : hasD (rollD s).1.files n x := by
  unfold rollD
  simp only []
  have k1 := crt_ok (s := (s.disk, 0)) ho.dsk (fileN s.next)
  have h4 := crt_keep (s := (s.disk, 0)) (fileN s.next) h
  split
  · exact unl_keep h3 (swap_keep k1 _ h1 h2 h4)
  · exact h4
theorem rollD_new {k u : Nat} {s : Sto} (ho : okS k u s) (h : (rollD s).2 = 0) : hasD (rollD s).1.files (fileN s.next) [] := by
  unfold rollD at h ⊢
  simp only [] at h ⊢
  have k1 := crt_ok (s := (s.disk, 0)) ho.dsk (fileN s.next)
  by_cases c : (crtS (fileN s.next) (s.disk, 0)).2 = 0
  · rw [if_pos c] at h ⊢
    have h4 := swap_keep k1 (rollX s).man (fileN_n _ _) (fileN_n _ _) (crt_new c)
    unfold unlS at h ⊢
    split at h
    · rename_i h5
      rw [if_pos h5]; exact h4
    · split at h
      · cases h
      · rename_i h6; exact absurd h h6
  · rw [if_neg c] at h; exact absurd h c
theorem bases_ne {k u : Nat} {f : Int} {s : Sto} {M : List SR} {g : Seg} {l : List Rec} (ho : okS k u s) (h : Inv f s M g l) (hl : l ≠ []) : ∀ p ∈ M ++ [(g, l)], fileN s.next ≠ fileN p.1.base := by
  intro p hp he
  have hpm : p.1 ∈ s.segs := by
    rw [h.segs]
    rcases List.mem_append.1 hp with hp | hp
    · exact List.mem_append_left _ (List.mem_map_of_mem hp)
    · rw [List.mem_singleton.1 hp]; simp
  have := fileN_inj ho.next (ho.seg _ hpm).1 he
  have hll : 0 < l.length := List.length_pos_iff.2 hl
  have hnx := h.next
  rcases List.mem_append.1 hp with hp | hp
  · have := (chain_mem _ _ _ h.chain).2 p hp; omega
  · rw [List.mem_singleton.1 hp] at this
    simp only [] at this; omega
theorem roll_inv {k u : Nat} {f : Int} {s : Sto} {M : List SR} {g : Seg} {l : List Rec} (ho : okS k u s) (h : Inv f s M g l) (hl : l ≠ []) :
    ((rollT s).2 ≠ 0 ∧ Inv f (rollT s).1 M g l) ∨ ((rollT s).2 = 0 ∧ Inv f (rollT s).1 (M ++ [(g, l)]) ⟨s.next, 0, 0⟩ []) := by
  have h1 := sync_inv ho h ho.next.1
  have o1 := syncT_ok ho
  have hn : (syncT s).1.next = s.next := rfl
  unfold rollT
  by_cases c1 : 64 ≤ s.segs.length
  · rw [if_pos c1]; exact .inl ⟨by simp, h⟩
  · rw [if_neg c1]
    by_cases c2 : (syncT s).2 = 0
    · rw [if_neg (by simp [c2])]
      generalize (syncT s).1 = t at *
      have hk : ∀ p ∈ M ++ [(g, l)], hasD t.disk.files (fileN p.1.base) (rowS p.2) → hasD (rollD t).1.files (fileN p.1.base) (rowS p.2) := fun p hp hd =>
        rollD_keep o1 (fileN_n _ _) (fileN_n _ _) (bases_ne o1 h1 hl p hp) hd
      by_cases c3 : (rollD t).2 = 0
      · rw [if_pos c3]
        refine .inr ⟨rfl, ?_, ?_, ?_, ?_, ?_⟩
        · show t.segs ++ [_] = _
          rw [h1.segs, hn]; simp
        · intro p hp
          rcases List.mem_append.1 hp with hp | hp
          · exact (h1.file p hp).keep (hk p hp)
          · rw [List.mem_singleton.1 hp]
            have := rollD_new o1 c3
            rw [hn] at this
            exact ⟨this, fun r hr => (by cases hr), fun k hk => (by simp at hk), rfl, rfl⟩
        · rw [chain_snoc]
          refine ⟨h1.chain, List.length_pos_iff.2 hl, ?_⟩
          have := h1.next
          rw [hn] at this
          simp only []; omega
        · show t.next = s.next + _
          rw [hn]; simp
        · exact h1.sure
      · rw [if_neg c3]
        exact .inl ⟨c3, h1.disk _ hk⟩
    · rw [if_pos c2]; exact .inl ⟨c2, h1⟩
theorem rowS_snoc (l : List Rec) (r : Rec) : rowS (l ++ [r]) = rowS l ++ frameF (bodyF r) := by
  unfold rowS; rw [List.flatMap_append]; simp [frameR]
theorem put_inv {k u : Nat} {f : Int} {s : Sto} {M : List SR} {g : Seg} {l : List Rec} (ho : okS k u s) (h : Inv f s M g l) (r : Rec) (hr : whyF r = 0) (ha : r.at_ = s.next) :
    ((putT s (putF r).1).2 ≠ 0 ∧ Inv f (putT s (putF r).1).1 M g l) ∨ ((putT s (putF r).1).2 = 0 ∧ Inv f (putT s (putF r).1).1 M ⟨g.base, g.n + 1, g.size + (frameF (bodyF r)).length⟩ (l ++ [r])) := by
  have hl := h.last
  have e1 : (putF r).1 = frameF (bodyF r) := by unfold putF; rw [if_pos hr]
  have hgm : g ∈ s.segs := by rw [h.segs]; simp
  have hk : ∀ p ∈ M, hasD s.disk.files (fileN p.1.base) (rowS p.2) → hasD (chgF s.disk (appR s.disk.files s.disk.cap (fileN g.base) (frameF (bodyF r)))).1.files (fileN p.1.base) (rowS p.2) := by
    intro p hp hd
    refine app_keep (s := (s.disk, 0)) (fun he => ?_) _ hd
    have hpm : p.1 ∈ s.segs := by rw [h.segs]; exact List.mem_append_left _ (List.mem_map_of_mem hp)
    have := fileN_inj (ho.seg _ hgm).1 (ho.seg _ hpm).1 he
    have := (chain_mem _ _ _ h.chain).2 p hp; omega
  have hg := h.file (g, l) (by simp)
  have hnx := h.next
  unfold putT
  simp only [hl, e1]
  by_cases c : (chgF s.disk (appR s.disk.files s.disk.cap (fileN g.base) (frameF (bodyF r)))).2 = 0
  · rw [if_neg (by simp [c])]
    refine .inr ⟨rfl, ?_, ?_, h.chain, ?_, ?_⟩
    · show s.segs.dropLast ++ [_] = _
      rw [hl, h.segs]; simp
    · intro p hp
      rcases List.mem_append.1 hp with hp | hp
      · exact (h.file p (List.mem_append_left _ hp)).keep (hk p hp)
      · rw [List.mem_singleton.1 hp]
        refine ⟨?_, ?_, ?_, ?_, ?_⟩
        · rw [rowS_snoc]; exact app_new ho.dsk.srt hg.has c
        · intro x hx
          rcases List.mem_append.1 hx with hx | hx
          · exact hg.why x hx
          · rw [List.mem_singleton.1 hx]; exact hr
        · intro j hj
          rw [List.length_append, List.length_singleton] at hj
          rcases Nat.lt_or_ge j l.length with h3 | h3
          · rw [List.getElem_append_left h3]; exact hg.num j h3
          · have : j = l.length := by omega
            subst this
            simp only [List.getElem_concat_length]
            omega
        · have := hg.n; simp only [List.length_append, List.length_singleton] at this ⊢; omega
        · have := hg.size; rw [rowS_snoc]; simp only [List.length_append] at this ⊢; omega
    · show s.next + 1 = g.base + _
      rw [List.length_append, List.length_singleton]; omega
    · have := h.sure
      show 0 ≤ s.sure ∧ s.sure ≤ s.next + 1
      omega
  · rw [if_pos c]
    refine .inl ⟨c, h.disk _ fun p hp hd => ?_⟩
    rw [chg_fail c]; exact hd
end Go.Proofs.YtijnkmjbfekajaaGreat

namespace Go.Proofs.YtijnkmjbfekajaaGreat
open Go.Vi
structure SZ (seg : Int) (M : List SR) (g : Seg) : Prop where
  old : ∀ p ∈ M, seg ≤ p.1.size ∧ p.1.size ≤ seg + 90
  last : g.size ≤ seg + 90
def Hold (f seg : Int) (s : Sto) (R : List Rec) : Prop := ∃ M g l, Inv f s M g l ∧ SZ seg M g ∧ recsM (M ++ [(g, l)]) = R
theorem Hold.next {f seg : Int} {s : Sto} {R : List Rec} (h : Hold f seg s R) : s.next = f + R.length := by
  obtain ⟨M, g, l, hi, _, rfl⟩ := h
  have := chain_len _ _ _ hi.chain
  rw [recsM_app, recsM_one, List.length_append, hi.next]; simp only []; omega
theorem Hold.sure {f seg : Int} {s : Sto} {R : List Rec} (h : Hold f seg s R) : 0 ≤ s.sure ∧ s.sure ≤ s.next := by
  obtain ⟨M, g, l, hi, _, rfl⟩ := h; exact hi.sure
theorem put_sure (s : Sto) (x : Txt) : (putT s x).1.sure = s.sure := by unfold putT addSeg; simp only []; split <;> rfl
theorem roll_mono {k u : Nat} {s : Sto} (ho : okS k u s) (h : s.sure ≤ s.next) : s.sure ≤ (rollT s).1.sure := by
  have := sync_mono ho h
  unfold rollT
  split
  · exact Int.le_refl _
  · split
    · exact this
    · split <;> exact this
theorem put_hold {k u : Nat} {f seg : Int} {s : Sto} {M : List SR} {g : Seg} {l : List Rec} (ho : okS k u s) (h : Inv f s M g l) (hz : SZ seg M g) (hlt : g.size < seg) (r : Rec) (hr : whyF r = 0) (ha : r.at_ = s.next) :
    ((putT s (putF r).1).2 ≠ 0 ∧ Hold f seg (putT s (putF r).1).1 (recsM (M ++ [(g, l)]))) ∨ ((putT s (putF r).1).2 = 0 ∧ Hold f seg (putT s (putF r).1).1 (recsM (M ++ [(g, l)]) ++ [r])) := by
  rcases put_inv ho h r hr ha with ⟨h1, h2⟩ | ⟨h1, h2⟩
  · exact .inl ⟨h1, M, g, l, h2, hz, rfl⟩
  · refine .inr ⟨h1, M, _, _, h2, ⟨hz.old, ?_⟩, ?_⟩
    · have := putF_len r
      unfold putF at this
      rw [if_pos hr] at this
      simp only [] at this ⊢; omega
    · rw [recsM_app, recsM_one, recsM_app, recsM_one, List.append_assoc]
theorem app_hold {k u : Nat} {f seg : Int} {s : Sto} {R : List Rec} (ho : okS k u s) (h : Hold f seg s R) (hseg : 1 ≤ seg) (r : Rec) :
    s.sure ≤ (appT s seg r).1.sure ∧ (((appT s seg r).2 ≠ 0 ∧ Hold f seg (appT s seg r).1 R) ∨ ((appT s seg r).2 = 0 ∧ r.at_ = s.next ∧ whyF r = 0 ∧ Hold f seg (appT s seg r).1 (R ++ [r]))) := by
  have hsure := h.sure
  have h0 := h
  obtain ⟨M, g, l, hi, hz, rfl⟩ := h
  have hlast := hi.last
  unfold appT
  by_cases c1 : (putF r).2 ≠ 0 ∨ r.at_ ≠ s.next
  · rw [if_pos c1]; exact ⟨Int.le_refl _, .inl ⟨by simp, h0⟩⟩
  · rw [if_neg c1]
    simp only [not_or, Decidable.not_not] at c1
    obtain ⟨c1, ca⟩ := c1
    have hr : whyF r = 0 := by
      unfold putF at c1
      split at c1
      · assumption
      · exact c1
    by_cases c2 : 1099511627776 ≤ s.next
    · rw [if_pos c2]; exact ⟨Int.le_refl _, .inl ⟨by simp, h0⟩⟩
    · rw [if_neg c2]
      by_cases c3 : seg ≤ s.last.size
      · rw [if_pos c3]
        have hg := (hi.file (g, l) (by simp)).size
        rw [hlast] at c3
        have hl : l ≠ [] := by
          rintro rfl
          have e : rowS [] = [] := rfl
          rw [e] at hg; simp only [List.length_nil] at hg; omega
        have hm := roll_mono ho hsure.2
        have ho2 := rollT_ok ho
        rcases roll_inv ho hi hl with ⟨h1, h2⟩ | ⟨h1, h2⟩
        · rw [if_pos h1]
          exact ⟨hm, .inl ⟨h1, M, g, l, h2, hz, rfl⟩⟩
        · rw [if_neg (by simp [h1]), put_sure]
          have e : recsM ((M ++ [(g, l)]) ++ [(⟨s.next, 0, 0⟩, [])]) = recsM (M ++ [(g, l)]) := by rw [recsM_app, recsM_one]; simp
          have hz2 : SZ seg (M ++ [(g, l)]) ⟨s.next, 0, 0⟩ := by
            refine ⟨fun p hp => ?_, by simp only []; omega⟩
            rcases List.mem_append.1 hp with hp | hp
            · exact hz.old p hp
            · rw [List.mem_singleton.1 hp]; exact ⟨c3, hz.last⟩
          have hp := put_hold ho2 h2 hz2 (by simp only []; omega) r hr (by rw [rollT_next]; exact ca)
          rw [e] at hp
          refine ⟨hm, ?_⟩
          rcases hp with ⟨h3, h4⟩ | ⟨h3, h4⟩
          · exact .inl ⟨h3, h4⟩
          · exact .inr ⟨h3, ca, hr, h4⟩
      · rw [if_neg c3, put_sure]
        rw [hlast] at c3
        have hp := put_hold ho hi hz (by omega) r hr ca
        refine ⟨Int.le_refl _, ?_⟩
        rcases hp with ⟨h3, h4⟩ | ⟨h3, h4⟩
        · exact .inl ⟨h3, h4⟩
        · exact .inr ⟨h3, ca, hr, h4⟩
theorem sync_hold {k u : Nat} {f seg : Int} {s : Sto} {R : List Rec} (ho : okS k u s) (h : Hold f seg s R) : Hold f seg (syncT s).1 R := by
  obtain ⟨M, g, l, hi, hz, rfl⟩ := h
  exact ⟨M, g, l, sync_inv ho hi ho.next.1, hz, rfl⟩
theorem read_hold {k u : Nat} {f seg : Int} {s : Sto} {R : List Rec} (ho : okS k u s) (h : Hold f seg s R) (i : Nat) (hi : i < R.length) :
    R[i].at_ = f + i ∧ whyF R[i] = 0 ∧ readT s (f + i) = .tup [(true, R[i].enc.map .d), (false, [.d (.i .i64 0)])] := by
  have hn := h.next
  obtain ⟨M, g, l, hv, hz, rfl⟩ := h
  obtain ⟨r, h1, h2, h3, h4⟩ := read_inv ho hv (f + i) (by omega) (by omega)
  have e : (f + (i : Int) - f).toNat = i := by omega
  rw [e, List.getElem?_eq_getElem hi, Option.some_inj] at h1
  rw [h1]
  exact ⟨h2, h3, h4⟩
end Go.Proofs.YtijnkmjbfekajaaGreat

namespace Go.Proofs.YtijnkmjbfekajaaGreat
open Go.Vi
def fromF : List Rec → Int → Int → List Rec
  | [], _, _ => []
  | r :: rs, b, m => if m ≤ 0 then [] else if b < sizeR r then [] else r :: fromF rs (b - sizeR r) (m - 1)
theorem fromF_drop (RS : List Rec) (i : Nat) (b m : Int) (h : i < RS.length) : fromF (RS.drop i) b m = if m ≤ 0 then [] else if b < sizeR RS[i] then [] else RS[i] :: fromF (RS.drop (i + 1)) (b - sizeR RS[i]) (m - 1) := by
  rw [List.drop_eq_getElem_cons h]; rfl
theorem fromF_end (RS : List Rec) (i : Nat) (b m : Int) (h : RS.length ≤ i) : fromF (RS.drop i) b m = [] := by
  rw [List.drop_of_length_le h]; rfl
def fromT (s : Sto) (f : Int) (R : List Rec) (off bytes most : Int) : List Rec := if off < s.floor then [] else fromF ((R.take (s.sure - f).toNat).drop (off - f).toNat) bytes most
theorem Hold.floor {f seg : Int} {s : Sto} {R : List Rec} (h : Hold f seg s R) : s.floor = f := by
  obtain ⟨M, g, l, hi, _, rfl⟩ := h
  unfold Sto.floor
  rw [hi.segs]
  cases hM : M with
  | nil => have := hi.chain; rw [hM] at this; simp only [chainM] at this; simp [this]
  | cons q M' => have := hi.chain; rw [hM] at this; simp [this.1]
theorem hold_loc {k u : Nat} {f seg : Int} {s : Sto} {R : List Rec} (ho : okS k u s) (h : Hold f seg s R) (off : Int) (h1 : f ≤ off) (h2 : off < s.next) :
    ∃ p : SR, s.hld off = p.1 ∧ p.1 ∈ s.segs ∧ p.1.base ≤ off ∧ off < p.1.base + p.2.length ∧ s.txt p.1 = rowS p.2 ∧ (scanS (rowS p.2) p.1.base).1.map (·.1) = p.2 ∧ (∀ r ∈ p.2, whyF r = 0) ∧ numB p.1.base p.2 ∧
      (∀ j, j < p.2.length - (off - p.1.base).toNat → R[(off - f).toNat + j]? = p.2[(off - p.1.base).toNat + j]?) := by
  have hn := h.next
  have hfl := h.floor
  obtain ⟨M, g, l, hi, hz, rfl⟩ := h
  obtain ⟨p, hp, e1, e2, e3, e6, e4⟩ := hld_loc off f _ M g l rfl hi.chain h1 (by have := hi.next; omega)
  have hf := hi.file p hp
  have hld : s.hld off = p.1 := by
    unfold Sto.hld
    rw [hi.segs]
    simp only [List.length_append, List.length_map, List.length_singleton, Nat.add_sub_cancel]
    exact e1
  have hpm : p.1 ∈ s.segs := by
    rw [hi.segs]
    rcases List.mem_append.1 hp with hp | hp
    · exact List.mem_append_left _ (List.mem_map_of_mem hp)
    · rw [List.mem_singleton.1 hp]; simp
  have hb := (ho.seg _ hpm).1
  refine ⟨p, hld, hpm, e2, e3, ?_, (scan_row p.2 p.1.base (by simp [offN]; omega) hf.why hf.num).1, hf.why, hf.num, ?_⟩
  · unfold Sto.txt
    rw [read_hasD ho.dsk.srt hf.has]
  · intro j hj
    have := e4 ((off - p.1.base).toNat + j) (by omega)
    rw [← this]; congr 1; omega
end Go.Proofs.YtijnkmjbfekajaaGreat

namespace Go.Proofs.YtijnkmjbfekajaaGreat
open Go.Vi
set_option maxRecDepth 8000 in
theorem from_sto {k u : Nat} {f seg : Int} (s : Sto) (R : List Rec) (h : okS k u s) (hh : Hold f seg s R) (hk : k ≤ 800000) (hu : u ≤ 1000000) (hR : R.length ≤ 1000000) (off bytes most : Int) (hf : 0 ≤ f) (hb : 0 ≤ bytes ∧ bytes ≤ 4611686018427387904) :
    call 20 [.agg s.l, vi off, vi bytes, vi most] [] = some (vl ((fromT s f R off bytes most).map Rec.enc), []) := by
  have q1 : call 13 [.agg s.l] [] = some (vi s.floor, []) := floor_spec s
  have hfl := hh.floor
  rw [hfl] at q1
  unfold fromT
  rw [hfl]
  have hnx := hh.next
  have hsu := hh.sure
  apply enterS s20 rfl
  by_cases c0 : off < f
  · rw [if_pos c0]
    obtain ⟨⟨fl, cp, ar, lf, dn⟩, ver, segs, next, sure, size, sum⟩ := s
    simp only [Sto.l, Dsk.l, List.cons_append, List.nil_append] at q1 ⊢
    (simp (disch:=first|decide|omega|(intros;exact Eq.trans rfl rfl)|(simp only[puri];done)) only [wkf, a20, q1, c0, go_sem, seval, dis])
    try simp [trim]
  · rw [if_neg c0]
    have hloc := fun o h1 h2 => hold_loc h hh o h1 h2
    have hhld := fun o => holder_spec s o (by have := h.len; omega) (by have := h.len; omega)
    have hrd := fun p : Seg => read_disk s.disk (Nat.le_trans h.dsk.len (by omega)) h.dsk.srt (fileN p.base)
    have htx : ∀ p : Seg, (s.txt p).length ≤ 1000000 := fun p => Nat.le_trans (readF_len _ _) (Nat.le_trans h.dsk.used hu)
    have hsg := h.seg
    have htxe : ∀ p : Seg, s.txt p = (readF s.disk.files (fileN p.base)).1 := fun _ => rfl
    have hle : (R.take (s.sure - f).toNat).length = (s.sure - f).toNat := by rw [List.length_take]; omega
    have hRg : ∀ i (hi : i < ((R.take (s.sure - f).toNat).drop (off - f).toNat).length), R[(off - f).toNat + i]? = some ((R.take (s.sure - f).toNat).drop (off - f).toNat)[i] := by
      intro i hi
      rw [List.getElem_drop, List.getElem_take, List.getElem?_eq_getElem]
    have hRSl : ((R.take (s.sure - f).toNat).drop (off - f).toNat).length = (s.sure - f).toNat - (off - f).toNat := by rw [List.length_drop, hle]
    generalize ((R.take (s.sure - f).toNat).drop (off - f).toNat) = RS at *
    have hidx : ∀ o, s.floor ≤ o → True := fun _ _ => trivial
    obtain ⟨Z, hZ⟩ : ∃ Z : V, Z = vl ((fromF RS bytes most).map Rec.enc) := ⟨_, rfl⟩
    rw [← hZ]
    have hcell : s.l = [.d (.l (s.disk.files.map Fil.enc)), .d (.i .i64 s.disk.cap), .d (.b s.disk.armed), .d (.i .i64 s.disk.left), .d (.b s.disk.down), .d (.i .i64 s.ver), .d (.l (s.segs.map Seg.enc)), .d (.i .i64 s.next), .d (.i .i64 s.sure), .d (.i .i64 s.size), .d (.i .u32 s.sum)] := rfl
    rw [hcell] at q1 ⊢
    have hdl : s.disk.l = [.d (.l (s.disk.files.map Fil.enc)), .d (.i .i64 s.disk.cap), .d (.b s.disk.armed), .d (.i .i64 s.disk.left), .d (.b s.disk.down)] := rfl
    (simp (disch:=first|decide|omega|(intros;exact Eq.trans rfl rfl)|(simp only[puri];done)) only [wkf, a20, q1, c0, go_sem, seval, dis])
    refine loop_boxM (m := 0) (σ := Nat × Int) (fun t => RS.length - t.1) (fun t => t.1 ≤ RS.length ∧ (0 ≤ t.2 ∧ t.2 ≤ 4611686018427387904) ∧ (t.1 = 0 ∨ t.1 ≤ most) ∧ fromF RS bytes most = RS.take t.1 ++ fromF (RS.drop t.1) t.2 (most - t.1)) (fun t => [vi (off + t.1), vi t.2, vi most, V.one (.p 0 0), V.one (.sl 1 3 0 t.1)])
      (fun t => [.cells [.d (.l (s.disk.files.map Fil.enc)), .d (.i .i64 s.disk.cap), .d (.b s.disk.armed), .d (.i .i64 s.disk.left), .d (.b s.disk.down), .d (.i .i64 s.ver), .d (.l (s.segs.map Seg.enc)), .d (.i .i64 s.next), .d (.i .i64 s.sure), .d (.i .i64 s.size), .d (.i .u32 s.sum)], .arr 3 ((RS.take t.1).map Rec.enc) 0]) (fun _ => (Z, [])) ?_ (0, bytes) ⟨Nat.zero_le _, hb, .inl rfl, by simp⟩ _ _ ?_
    rotate_left
    · have e : off + ((0 : Nat) : Int) = off := by omega
      simp only [e, List.take_zero, List.map_nil]
      exact (at_headM (by decide) (by simp only [List.map_cons, List.map_nil, go_sem, seval]; exact rfl) (by rfl) (by rfl) (by rfl))
    rintro ⟨i, b⟩ ⟨hi, hbb, him, hinv⟩ K hK
    simp only at hi hbb him hinv ⊢
    have hQl : ((RS.take i).map Rec.enc).length = i := by simp; omega
    have hQt : ((RS.take i).map Rec.enc).take i = (RS.take i).map Rec.enc := List.take_of_length_le (by omega)
    by_cases c1 : off + i < s.sure
    · by_cases c2 : (i : Int) < most
      · obtain ⟨p, e1, e2, e3, e4, e5, e6, e7, e8, e9⟩ := hloc (off + i) (by omega) (by omega)
        have g1 := hhld (off + i)
        rw [e1, hcell] at g1
        have hpb := (hsg _ e2).1
        have g2 := seg_int hpb
        have g3 := hrd p.1
        rw [← htxe, e5, hdl] at g3
        have g4 := scan_spec (rowS p.2) (by rw [← e5]; exact htx _) p.1.base (by omega)
        obtain ⟨d, hd⟩ : ∃ d : Nat, d = (off + i - p.1.base).toNat := ⟨_, rfl⟩
        rw [← hd] at e9
        have hd2 : off + (i : Int) - p.1.base = (d : Int) := by omega
        have hdl2 : d < p.2.length := by omega
        have hmn : (if ((p.2.length : Nat) : Int) < (d : Int) then ((p.2.length : Nat) : Int) else (d : Int)) = (d : Int) := by rw [if_neg (by omega)]
        have hpl : p.2.length ≤ 1000000 := Nat.le_trans (row_ge' _) (by rw [← e5]; exact htx _)
        have htkp : (p.2.map Rec.enc).take p.2.length = p.2.map Rec.enc := List.take_of_length_le (by simp)
        have hbo := bounds_lo (n := p.2.length) (k := d) (by omega)
        have hok : okRows 3 (p.2.map Rec.enc) = true := okRows_map Rec.len _
        have g5 : (scanS (rowS p.2) p.1.base).1.map (fun x => x.1.enc) = p.2.map Rec.enc := by
          conv => rhs; rw [← e6]
          rw [List.map_map]; rfl
        unfold scanV at g4
        rw [g5] at g4
        generalize scanS (rowS p.2) p.1.base = sc at *
        generalize (readF s.disk.files (fileN p.1.base)).2 = re at *
        generalize fileN p.1.base = N at *
        obtain ⟨⟨pb, pn, pz⟩, pl⟩ := p
        simp only [Seg.enc, List.map_cons, List.map_nil] at g1 g2 g3 g4 hd2 hmn hbo hok hpb hdl2 e3 e4 e9 e7 hpl htkp
        obtain ⟨DR, hDR⟩ : ∃ DR, (pl.map Rec.enc).drop d = DR := ⟨_, rfl⟩
        have hDRl : DR.length = pl.length - d := by rw [← hDR]; simp
        (simp (disch:=first|decide|omega|(intros;exact Eq.trans rfl rfl)|(simp only[puri];done)) only [wkf, a20_0, c1, c2, g1, g2, g3, g4, hd2, hmn, hbo, hok, htkp, hDR, hDRl, go_sem, seval, dis])
        clear g1 g2 g3 g4 g5 hhld hrd hmn
        refine loop_boxM (m := 0) (σ := Nat × Int) (fun t => pl.length - d - t.1) (fun t => t.1 ≤ pl.length - d ∧ i + t.1 ≤ RS.length ∧ (0 ≤ t.2 ∧ t.2 ≤ 4611686018427387904) ∧ (i + t.1 = 0 ∨ ((i + t.1 : Nat) : Int) ≤ most) ∧ fromF RS bytes most = RS.take (i + t.1) ++ fromF (RS.drop (i + t.1)) t.2 (most - ((i + t.1 : Nat) : Int))) (fun t => [vi (off + ((i + t.1 : Nat) : Int)), vi t.2, vi most, V.one (.p 0 0), V.one (.sl 1 3 0 (i + t.1)), vl DR, vi ((pl.length - d : Nat) : Int), vi t.1])
          (fun t => [.cells [.d (.l (s.disk.files.map Fil.enc)), .d (.i .i64 s.disk.cap), .d (.b s.disk.armed), .d (.i .i64 s.disk.left), .d (.b s.disk.down), .d (.i .i64 s.ver), .d (.l (s.segs.map Seg.enc)), .d (.i .i64 s.next), .d (.i .i64 s.sure), .d (.i .i64 s.size), .d (.i .u32 s.sum)], .arr 3 ((RS.take (i + t.1)).map Rec.enc) 0]) (fun _ => (Z, [])) ?_ (0, b) ⟨Nat.zero_le _, hi, hbb, him, hinv⟩ _ _ ?_
        rotate_left
        · exact (at_headM (by decide) (by simp only [List.map_cons, List.map_nil, go_sem, seval]; exact rfl) (by rfl) (by rfl) (by rfl))
        rintro ⟨j, b2⟩ ⟨hj, hij, hbb2, hjm, hinv2⟩ K2 hK2
        simp only at hj hij hbb2 hjm hinv2 ⊢
        by_cases c3 : j < pl.length - d
        · have hlt : d + j < pl.length := by omega
          have g6 : DR[j]? = some pl[d + j].enc := by rw [← hDR]; simp [hlt]
          have g7 := e9 j c3
          rw [List.getElem?_eq_getElem hlt] at g7
          have hw := e7 _ (List.getElem_mem hlt)
          have hfit := why_fit.1 hw
          have hro : pl[d + j].ok := ⟨by have := hfit.a0; have := hfit.a1; omega, by have := hfit.t0; have := hfit.t1; omega, by have := hfit.d; omega⟩
          have g8 := sizeRec_spec pl[d + j] hro
          have hz := sizeR_le (r := pl[d + j])
          have c3i : (j : Int) < ((pl.length - d : Nat) : Int) := by omega
          have hQl : ((RS.take (i + j)).map Rec.enc).length = i + j := by simp; omega
          have hQt : ((RS.take (i + j)).map Rec.enc).take (i + j) = (RS.take (i + j)).map Rec.enc := List.take_of_length_le (by omega)
          by_cases c4 : b2 - sizeR pl[d + j] < 0
          · have hend : fromF (RS.drop (i + j)) b2 (most - ((i + j : Nat) : Int)) = [] := by
              rcases Nat.lt_or_ge (i + j) RS.length with h3 | h3
              · rw [fromF_drop _ _ _ _ h3]
                have h5 := hRg (i + j) h3
                have h6 : (off + (i : Int) - f).toNat + j = (off - f).toNat + (i + j) := by omega
                rw [h6, h5, Option.some_inj] at g7
                rw [g7]
                split
                · rfl
                · rw [if_pos (by omega)]
              · exact fromF_end _ _ _ _ h3
            rw [hend, List.append_nil] at hinv2
            rw [hinv2] at hZ
            generalize pl[d + j] = r at *
            obtain ⟨ra, rt, rd⟩ := r
            generalize (RS.take (i + j)).map Rec.enc = Q at *
            simp only [Rec.enc, List.map_cons, List.map_nil] at g6 g8
            (simp (disch:=first|decide|omega|(intros;exact Eq.trans rfl rfl)|(simp only[puri];done)) only [wkf, a20_1, c3i, g6, g8, c4, hQl, go_sem, seval, dis])
            rw [hZ]
            try simp [trim, hQt]
          · by_cases c5 : s.sure ≤ off + ((i + j : Nat) : Int)
            · rw [fromF_end _ _ _ _ (by omega), List.append_nil] at hinv2
              rw [hinv2] at hZ
              generalize pl[d + j] = r at *
              obtain ⟨ra, rt, rd⟩ := r
              generalize (RS.take (i + j)).map Rec.enc = Q at *
              simp only [Rec.enc, List.map_cons, List.map_nil] at g6 g8
              (simp (disch:=first|decide|omega|(intros;exact Eq.trans rfl rfl)|(simp only[puri];done)) only [wkf, a20_1, c3i, g6, g8, c4, c5, hQl, go_sem, seval, dis])
              rw [hZ]
              try simp [trim, hQt]
            · have hlr : i + j < RS.length := by omega
              have hbs := fromF_drop RS (i + j) b2 (most - ((i + j : Nat) : Int)) hlr
              have h5 := hRg (i + j) hlr
              have h6 : (off + (i : Int) - f).toNat + j = (off - f).toNat + (i + j) := by omega
              rw [h6, h5, Option.some_inj] at g7
              by_cases c6 : ((i + j : Nat) : Int) = most
              · rw [hbs, if_pos (by omega), List.append_nil] at hinv2
                rw [hinv2] at hZ
                generalize pl[d + j] = r at *
                obtain ⟨ra, rt, rd⟩ := r
                generalize (RS.take (i + j)).map Rec.enc = Q at *
                simp only [Rec.enc, List.map_cons, List.map_nil] at g6 g8
                (simp (disch:=first|decide|omega|(intros;exact Eq.trans rfl rfl)|(simp only[puri];done)) only [wkf, a20_1, c3i, g6, g8, c4, c5, c6, hQl, go_sem, seval, dis])
                rw [hZ]
                try simp [trim, hQt]
              · rw [hbs, if_neg (by omega), g7, if_neg (by omega)] at hinv2
                have htk : RS.take (i + j) ++ [RS[i + j]] = RS.take (i + (j + 1)) := by
                  rw [← List.take_succ_eq_append_getElem hlr]; rfl
                rw [g7] at htk
                have hK3 := hK2 (j + 1, b2 - sizeR pl[d + j]) (by simp only []; omega) ⟨by simp only []; omega, by simp only []; omega, by simp only []; omega, .inr (by simp only []; omega), by
                  simp only []
                  rw [hinv2, ← htk, List.append_assoc, List.singleton_append]
                  have e1 : i + j + 1 = i + (j + 1) := by omega
                  have e2 : most - ((i + j : Nat) : Int) - 1 = most - ((i + (j + 1) : Nat) : Int) := by omega
                  rw [e1, e2]⟩
                simp only [] at hK3
                rw [← htk, List.map_append] at hK3
                have e3 : off + ((i + (j + 1) : Nat) : Int) = off + ((i + j : Nat) : Int) + 1 := by omega
                have e4 : i + (j + 1) = i + j + 1 := by omega
                rw [e3, e4] at hK3
                have c6' : ¬ ((i + j : Nat) : Int) = most := c6
                have hov : off + ((i + j : Nat) : Int) ≤ 2000000000000 := by omega
                have hov2 : 0 ≤ off + ((i + j : Nat) : Int) := by omega
                have hjl : i + j ≤ 1000000 := by omega
                clear hinv2 hbs htk
                generalize pl[d + j] = r at *
                obtain ⟨ra, rt, rd⟩ := r
                generalize (RS.take (i + j)).map Rec.enc = Q at *
                simp only [Rec.enc, List.map_cons, List.map_nil] at g6 g8 hK3
                (simp (disch:=first|decide|omega|(intros;exact Eq.trans rfl rfl)|(simp only[puri];done)) only [wkf, a20_1, c3i, g6, g8, c4, c5, c6, hQl, go_sem, seval, dis])
                exact hK3 _ _ (at_headM (by decide) (by simp only [List.map_cons, List.map_nil, go_sem, seval]; exact rfl) (by rfl) (by rfl) (by rfl))
        · have hje : j = pl.length - d := by omega
          have c3i : ¬ (j : Int) < ((pl.length - d : Nat) : Int) := by omega
          have hK3 := hK (i + j, b2) (by simp only []; omega) ⟨hij, hbb2, hjm, hinv2⟩
          simp only [] at hK3
          (simp (disch:=first|decide|omega|(intros;exact Eq.trans rfl rfl)|(simp only[puri];done)) only [wkf, a20_1, c3i, go_sem, seval, dis])
          exact hK3 _ _ (at_headM (by decide) (by simp only [List.map_cons, List.map_nil, go_sem, seval]; exact rfl) (by rfl) (by rfl) (by rfl))
      · have hend : fromF (RS.drop i) b (most - (i : Int)) = [] := by
          rcases Nat.lt_or_ge i RS.length with h3 | h3
          · rw [fromF_drop _ _ _ _ h3, if_pos (by omega)]
          · exact fromF_end _ _ _ _ h3
        rw [hend, List.append_nil] at hinv
        rw [hinv] at hZ
        generalize (RS.take i).map Rec.enc = Q at *
        (simp (disch:=first|decide|omega|(intros;exact Eq.trans rfl rfl)|(simp only[puri];done)) only [wkf, a20_0, c1, c2, hQl, go_sem, seval, dis])
        rw [hZ]
        try simp [trim, hQt]
    · rw [fromF_end _ _ _ _ (by omega), List.append_nil] at hinv
      rw [hinv] at hZ
      generalize (RS.take i).map Rec.enc = Q at *
      (simp (disch:=first|decide|omega|(intros;exact Eq.trans rfl rfl)|(simp only[puri];done)) only [wkf, a20_0, c1, hQl, go_sem, seval, dis])
      rw [hZ]
      try simp [trim, hQt]
end Go.Proofs.YtijnkmjbfekajaaGreat

namespace Go.Proofs.YtijnkmjbfekajaaGreat
open Go.Vi
structure Act where
  kind : Int
  n : Int
  data : List UInt8
  deriving DecidableEq
def Act.enc (e : Act) : List D := [.i .i64 e.kind, .i .i64 e.n, .s e.data]
theorem Act.len (e : Act) : e.enc.length = 3 := Eq.trans rfl rfl
theorem Act.tk (e : Act) : e.enc.take 3 = e.enc := Eq.trans rfl rfl
theorem Act.tkL (e : Act) : (e.enc.map L.d).take 3 = e.enc.map L.d := Eq.trans rfl rfl
theorem Act.dat (e : Act) : dataLs (e.enc.map L.d) = some (e.enc.map L.d) := Eq.trans rfl rfl
theorem Act.lenL (e : Act) : (e.enc.map L.d).length = 3 := Eq.trans rfl rfl
theorem Act.at0 (e : Act) : e.enc[0]? = some (.i .i64 e.kind) := Eq.trans rfl rfl
theorem Act.fd0 (e : Act) : (e.enc.map L.d)[0]? = some (.d (.i .i64 e.kind)) := Eq.trans rfl rfl
theorem Act.at1 (e : Act) : (e.enc.drop 1)[0]? = some (.i .i64 e.n) := Eq.trans rfl rfl
theorem Act.fd1 (e : Act) : (e.enc.map L.d)[1]? = some (.d (.i .i64 e.n)) := Eq.trans rfl rfl
theorem Act.at2 (e : Act) : (e.enc.drop 2)[0]? = some (.s e.data) := Eq.trans rfl rfl
theorem Act.fd2 (e : Act) : (e.enc.map L.d)[2]? = some (.d (.s e.data)) := Eq.trans rfl rfl
theorem Act.up1 (e : Act) (x : Int) : e.enc.take 1 ++ [.i .i64 x] ++ e.enc.drop 2 = ({ e with n := x } : Act).enc := Eq.trans rfl rfl
theorem Act.up2 (e : Act) (x : List UInt8) : e.enc.take 2 ++ [.s x] ++ e.enc.drop 3 = ({ e with data := x } : Act).enc := Eq.trans rfl rfl
def Act.ok (e : Act) : Prop := (-9223372036854775808 ≤ e.kind ∧ e.kind < 9223372036854775808) ∧ (-9223372036854775808 ≤ e.n ∧ e.n < 9223372036854775808) ∧ e.data.length ≤ 9223372036854775807
def Act.ty : List Ty := [.i .i64, .i .i64, .s]
theorem Act.eqs (a b : Act) : scEqs [0, 0, 2] (a.enc.map L.d) (b.enc.map L.d) = some (decide (a = b)) := by
  cases a; cases b
  simp only [Act.enc, List.map_cons, List.map_nil, scEqs, scEq, if_true, Act.mk.injEq]
  congr 1
  rw [Bool.eq_iff_iff]
  simp only [Bool.and_eq_true, beq_iff_eq, decide_eq_true_eq, and_true]
theorem Act.of (r : List D) (h : wfRow Act.ty r) : ∃ e : Act, r = e.enc ∧ e.ok := by
  simp only [Act.ty, wfRow, wfT] at h
  obtain ⟨_, _, rfl, ⟨x0, rfl, h0, g0⟩, ⟨_, _, rfl, ⟨x1, rfl, h1, g1⟩, ⟨_, _, rfl, ⟨x2, rfl, h2⟩, rfl⟩⟩⟩ := h
  refine ⟨⟨x0, x1, x2⟩, rfl, ?_⟩
  exact ⟨⟨Int.le_trans (by decide) h0, Int.lt_of_le_of_lt g0 (by decide)⟩, ⟨Int.le_trans (by decide) h1, Int.lt_of_le_of_lt g1 (by decide)⟩, h2⟩
end Go.Proofs.YtijnkmjbfekajaaGreat

