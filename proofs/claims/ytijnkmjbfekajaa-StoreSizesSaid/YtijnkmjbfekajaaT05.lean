import Derived.Test.YtijnkmjbfekajaaT04
set_option linter.unusedSimpArgs false
set_option linter.unusedVariables false
namespace Go.Proofs.Ytijnkmjbfekajaa
open Go.Vi
set_option maxRecDepth 8000 in
theorem from_sto {k u : Nat} {f seg : Int} (s : Sto) (R : List Rec) (h : okS k u s) (hh : Hold f seg s R) (hk : k ≤ 800000) (hu : u ≤ 1000000) (hR : R.length ≤ 1000000) (off bytes most : Int) (hf : 0 ≤ f) (hb : 0 ≤ bytes ∧ bytes ≤ 4611686018427387904) :
    call 13 [.agg s.l, vi off, vi bytes, vi most] [] = some (vl ((fromT s f R off bytes most).map Rec.enc), []) := by
  have q1 : call 20 [.agg s.l] [] = some (vi s.floor, []) := floor_spec s
  have hfl := hh.floor
  rw [hfl] at q1
  unfold fromT
  rw [hfl]
  have hnx := hh.next
  have hsu := hh.sure
  apply enterS s13 rfl
  by_cases c0 : off < f
  · rw [if_pos c0]
    obtain ⟨⟨fl, cp, ar, lf, dn⟩, ver, segs, next, sure, size, sum⟩ := s
    simp only [Sto.l, Dsk.l, List.cons_append, List.nil_append] at q1 ⊢
    (simp (disch:=first|decide|omega|(intros;exact Eq.trans rfl rfl)|(simp only[puri];done)) only [wkf, a13, q1, c0, go_sem, seval, dis])
    try simp [trim]
  · rw [if_neg c0]
    have hloc := fun o h1 h2 => hold_loc h hh o h1 h2
    have hhld := fun o => holder_spec s o (by have := h.len; omega) (by have := h.len; omega)
    have hrd := fun p : Seg => read_disk s.disk (Nat.le_trans h.dsk.len (by omega)) h.dsk.srt (fileN p.base)
    have htx : ∀ p : Seg, (s.txt p).length ≤ 1000000 := fun p => Nat.le_trans (readF_len _ _) (Nat.le_trans h.dsk.used hu)
    have hsg := h.seg
    have htxe : ∀ p : Seg, s.txt p = (readF s.disk.files (fileN p.base)).1 := fun _ => rfl
    have hle : (R.take (s.sure - f).toNat).length = (s.sure - f).toNat := by rw [List.length_take]; omega
    have hRg : ∀ i (hi : i < ((R.take (s.sure - f).toNat).drop (off - f).toNat).length), R[(off - f).toNat + i]? = some ((R.take (s.sure - f).toNat).drop (off - f).toNat)[i] := by
      intro i hi
      rw [List.getElem_drop, List.getElem_take, List.getElem?_eq_getElem]
    have hRSl : ((R.take (s.sure - f).toNat).drop (off - f).toNat).length = (s.sure - f).toNat - (off - f).toNat := by rw [List.length_drop, hle]
    generalize ((R.take (s.sure - f).toNat).drop (off - f).toNat) = RS at *
    have hidx : ∀ o, s.floor ≤ o → True := fun _ _ => trivial
    obtain ⟨Z, hZ⟩ : ∃ Z : V, Z = vl ((fromF RS bytes most).map Rec.enc) := ⟨_, rfl⟩
    rw [← hZ]
    have hcell : s.l = [.d (.l (s.disk.files.map Fil.enc)), .d (.i .i64 s.disk.cap), .d (.b s.disk.armed), .d (.i .i64 s.disk.left), .d (.b s.disk.down), .d (.i .i64 s.ver), .d (.l (s.segs.map Seg.enc)), .d (.i .i64 s.next), .d (.i .i64 s.sure), .d (.i .i64 s.size), .d (.i .u32 s.sum)] := rfl
    rw [hcell] at q1 ⊢
    have hdl : s.disk.l = [.d (.l (s.disk.files.map Fil.enc)), .d (.i .i64 s.disk.cap), .d (.b s.disk.armed), .d (.i .i64 s.disk.left), .d (.b s.disk.down)] := rfl
    (simp (disch:=first|decide|omega|(intros;exact Eq.trans rfl rfl)|(simp only[puri];done)) only [wkf, a13, q1, c0, go_sem, seval, dis])
    refine loop_boxM (m := 0) (σ := Nat × Int) (fun t => RS.length - t.1) (fun t => t.1 ≤ RS.length ∧ (0 ≤ t.2 ∧ t.2 ≤ 4611686018427387904) ∧ (t.1 = 0 ∨ t.1 ≤ most) ∧ fromF RS bytes most = RS.take t.1 ++ fromF (RS.drop t.1) t.2 (most - t.1)) (fun t => [vi (off + t.1), vi t.2, vi most, V.one (.p 0 0), V.one (.sl 1 3 0 t.1)])
      (fun t => [.cells [.d (.l (s.disk.files.map Fil.enc)), .d (.i .i64 s.disk.cap), .d (.b s.disk.armed), .d (.i .i64 s.disk.left), .d (.b s.disk.down), .d (.i .i64 s.ver), .d (.l (s.segs.map Seg.enc)), .d (.i .i64 s.next), .d (.i .i64 s.sure), .d (.i .i64 s.size), .d (.i .u32 s.sum)], .arr 3 ((RS.take t.1).map Rec.enc) 0]) (fun _ => (Z, [])) ?_ (0, bytes) ⟨Nat.zero_le _, hb, .inl rfl, by simp⟩ _ _ ?_
    rotate_left
    · have e : off + ((0 : Nat) : Int) = off := by omega
      simp only [e, List.take_zero, List.map_nil]
      exact (at_headM (by decide) (by simp only [List.map_cons, List.map_nil, go_sem, seval]; exact rfl) (by rfl) (by rfl) (by rfl))
    rintro ⟨i, b⟩ ⟨hi, hbb, him, hinv⟩ K hK
    simp only at hi hbb him hinv ⊢
    have hQl : ((RS.take i).map Rec.enc).length = i := by simp; omega
    have hQt : ((RS.take i).map Rec.enc).take i = (RS.take i).map Rec.enc := List.take_of_length_le (by omega)
    by_cases c1 : off + i < s.sure
    · by_cases c2 : (i : Int) < most
      · obtain ⟨p, e1, e2, e3, e4, e5, e6, e7, e8, e9⟩ := hloc (off + i) (by omega) (by omega)
        have g1 := hhld (off + i)
        rw [e1, hcell] at g1
        have hpb := (hsg _ e2).1
        have g2 := seg_int hpb
        have g3 := hrd p.1
        rw [← htxe, e5, hdl] at g3
        have g4 := scan_spec (rowS p.2) (by rw [← e5]; exact htx _) p.1.base (by omega)
        obtain ⟨d, hd⟩ : ∃ d : Nat, d = (off + i - p.1.base).toNat := ⟨_, rfl⟩
        rw [← hd] at e9
        have hd2 : off + (i : Int) - p.1.base = (d : Int) := by omega
        have hdl2 : d < p.2.length := by omega
        have hmn : (if ((p.2.length : Nat) : Int) < (d : Int) then ((p.2.length : Nat) : Int) else (d : Int)) = (d : Int) := by rw [if_neg (by omega)]
        have hpl : p.2.length ≤ 1000000 := Nat.le_trans (row_ge' _) (by rw [← e5]; exact htx _)
        have htkp : (p.2.map Rec.enc).take p.2.length = p.2.map Rec.enc := List.take_of_length_le (by simp)
        have hbo := bounds_lo (n := p.2.length) (k := d) (by omega)
        have hok : okRows 3 (p.2.map Rec.enc) = true := okRows_map Rec.len _
        have g5 : (scanS (rowS p.2) p.1.base).1.map (fun x => x.1.enc) = p.2.map Rec.enc := by
          conv => rhs; rw [← e6]
          rw [List.map_map]; rfl
        unfold scanV at g4
        rw [g5] at g4
        generalize scanS (rowS p.2) p.1.base = sc at *
        generalize (readF s.disk.files (fileN p.1.base)).2 = re at *
        generalize fileN p.1.base = N at *
        obtain ⟨⟨pb, pn, pz⟩, pl⟩ := p
        simp only [Seg.enc, List.map_cons, List.map_nil] at g1 g2 g3 g4 hd2 hmn hbo hok hpb hdl2 e3 e4 e9 e7 hpl htkp
        obtain ⟨DR, hDR⟩ : ∃ DR, (pl.map Rec.enc).drop d = DR := ⟨_, rfl⟩
        have hDRl : DR.length = pl.length - d := by rw [← hDR]; simp
        (simp (disch:=first|decide|omega|(intros;exact Eq.trans rfl rfl)|(simp only[puri];done)) only [wkf, a13_0, c1, c2, g1, g2, g3, g4, hd2, hmn, hbo, hok, htkp, hDR, hDRl, go_sem, seval, dis])
        clear g1 g2 g3 g4 g5 hhld hrd hmn
        refine loop_boxM (m := 0) (σ := Nat × Int) (fun t => pl.length - d - t.1) (fun t => t.1 ≤ pl.length - d ∧ i + t.1 ≤ RS.length ∧ (0 ≤ t.2 ∧ t.2 ≤ 4611686018427387904) ∧ (i + t.1 = 0 ∨ ((i + t.1 : Nat) : Int) ≤ most) ∧ fromF RS bytes most = RS.take (i + t.1) ++ fromF (RS.drop (i + t.1)) t.2 (most - ((i + t.1 : Nat) : Int))) (fun t => [vi (off + ((i + t.1 : Nat) : Int)), vi t.2, vi most, V.one (.p 0 0), V.one (.sl 1 3 0 (i + t.1)), vl DR, vi ((pl.length - d : Nat) : Int), vi t.1])
          (fun t => [.cells [.d (.l (s.disk.files.map Fil.enc)), .d (.i .i64 s.disk.cap), .d (.b s.disk.armed), .d (.i .i64 s.disk.left), .d (.b s.disk.down), .d (.i .i64 s.ver), .d (.l (s.segs.map Seg.enc)), .d (.i .i64 s.next), .d (.i .i64 s.sure), .d (.i .i64 s.size), .d (.i .u32 s.sum)], .arr 3 ((RS.take (i + t.1)).map Rec.enc) 0]) (fun _ => (Z, [])) ?_ (0, b) ⟨Nat.zero_le _, hi, hbb, him, hinv⟩ _ _ ?_
        rotate_left
        · exact (at_headM (by decide) (by simp only [List.map_cons, List.map_nil, go_sem, seval]; exact rfl) (by rfl) (by rfl) (by rfl))
        rintro ⟨j, b2⟩ ⟨hj, hij, hbb2, hjm, hinv2⟩ K2 hK2
        simp only at hj hij hbb2 hjm hinv2 ⊢
        by_cases c3 : j < pl.length - d
        · have hlt : d + j < pl.length := by omega
          have g6 : DR[j]? = some pl[d + j].enc := by rw [← hDR]; simp [hlt]
          have g7 := e9 j c3
          rw [List.getElem?_eq_getElem hlt] at g7
          have hw := e7 _ (List.getElem_mem hlt)
          have hfit := why_fit.1 hw
          have hro : pl[d + j].ok := ⟨by have := hfit.a0; have := hfit.a1; omega, by have := hfit.t0; have := hfit.t1; omega, by have := hfit.d; omega⟩
          have g8 := sizeRec_spec pl[d + j] hro
          have hz := sizeR_le (r := pl[d + j])
          have c3i : (j : Int) < ((pl.length - d : Nat) : Int) := by omega
          have hQl : ((RS.take (i + j)).map Rec.enc).length = i + j := by simp; omega
          have hQt : ((RS.take (i + j)).map Rec.enc).take (i + j) = (RS.take (i + j)).map Rec.enc := List.take_of_length_le (by omega)
          by_cases c4 : b2 - sizeR pl[d + j] < 0
          · have hend : fromF (RS.drop (i + j)) b2 (most - ((i + j : Nat) : Int)) = [] := by
              rcases Nat.lt_or_ge (i + j) RS.length with h3 | h3
              · rw [fromF_drop _ _ _ _ h3]
                have h5 := hRg (i + j) h3
                have h6 : (off + (i : Int) - f).toNat + j = (off - f).toNat + (i + j) := by omega
                rw [h6, h5, Option.some_inj] at g7
                rw [g7]
                split
                · rfl
                · rw [if_pos (by omega)]
              · exact fromF_end _ _ _ _ h3
            rw [hend, List.append_nil] at hinv2
            rw [hinv2] at hZ
            generalize pl[d + j] = r at *
            obtain ⟨ra, rt, rd⟩ := r
            generalize (RS.take (i + j)).map Rec.enc = Q at *
            simp only [Rec.enc, List.map_cons, List.map_nil] at g6 g8
            (simp (disch:=first|decide|omega|(intros;exact Eq.trans rfl rfl)|(simp only[puri];done)) only [wkf, a13_1, c3i, g6, g8, c4, hQl, go_sem, seval, dis])
            rw [hZ]
            try simp [trim, hQt]
          · by_cases c5 : s.sure ≤ off + ((i + j : Nat) : Int)
            · rw [fromF_end _ _ _ _ (by omega), List.append_nil] at hinv2
              rw [hinv2] at hZ
              generalize pl[d + j] = r at *
              obtain ⟨ra, rt, rd⟩ := r
              generalize (RS.take (i + j)).map Rec.enc = Q at *
              simp only [Rec.enc, List.map_cons, List.map_nil] at g6 g8
              (simp (disch:=first|decide|omega|(intros;exact Eq.trans rfl rfl)|(simp only[puri];done)) only [wkf, a13_1, c3i, g6, g8, c4, c5, hQl, go_sem, seval, dis])
              rw [hZ]
              try simp [trim, hQt]
            · have hlr : i + j < RS.length := by omega
              have hbs := fromF_drop RS (i + j) b2 (most - ((i + j : Nat) : Int)) hlr
              have h5 := hRg (i + j) hlr
              have h6 : (off + (i : Int) - f).toNat + j = (off - f).toNat + (i + j) := by omega
              rw [h6, h5, Option.some_inj] at g7
              by_cases c6 : ((i + j : Nat) : Int) = most
              · rw [hbs, if_pos (by omega), List.append_nil] at hinv2
                rw [hinv2] at hZ
                generalize pl[d + j] = r at *
                obtain ⟨ra, rt, rd⟩ := r
                generalize (RS.take (i + j)).map Rec.enc = Q at *
                simp only [Rec.enc, List.map_cons, List.map_nil] at g6 g8
                (simp (disch:=first|decide|omega|(intros;exact Eq.trans rfl rfl)|(simp only[puri];done)) only [wkf, a13_1, c3i, g6, g8, c4, c5, c6, hQl, go_sem, seval, dis])
                rw [hZ]
                try simp [trim, hQt]
              · rw [hbs, if_neg (by omega), g7, if_neg (by omega)] at hinv2
                have htk : RS.take (i + j) ++ [RS[i + j]] = RS.take (i + (j + 1)) := by
                  rw [← List.take_succ_eq_append_getElem hlr]; rfl
                rw [g7] at htk
                have hK3 := hK2 (j + 1, b2 - sizeR pl[d + j]) (by simp only []; omega) ⟨by simp only []; omega, by simp only []; omega, by simp only []; omega, .inr (by simp only []; omega), by
                  simp only []
                  rw [hinv2, ← htk, List.append_assoc, List.singleton_append]
                  have e1 : i + j + 1 = i + (j + 1) := by omega
                  have e2 : most - ((i + j : Nat) : Int) - 1 = most - ((i + (j + 1) : Nat) : Int) := by omega
                  rw [e1, e2]⟩
                simp only [] at hK3
                rw [← htk, List.map_append] at hK3
                have e3 : off + ((i + (j + 1) : Nat) : Int) = off + ((i + j : Nat) : Int) + 1 := by omega
                have e4 : i + (j + 1) = i + j + 1 := by omega
                rw [e3, e4] at hK3
                have c6' : ¬ ((i + j : Nat) : Int) = most := c6
                have hov : off + ((i + j : Nat) : Int) ≤ 2000000000000 := by omega
                have hov2 : 0 ≤ off + ((i + j : Nat) : Int) := by omega
                have hjl : i + j ≤ 1000000 := by omega
                clear hinv2 hbs htk
                generalize pl[d + j] = r at *
                obtain ⟨ra, rt, rd⟩ := r
                generalize (RS.take (i + j)).map Rec.enc = Q at *
                simp only [Rec.enc, List.map_cons, List.map_nil] at g6 g8 hK3
                (simp (disch:=first|decide|omega|(intros;exact Eq.trans rfl rfl)|(simp only[puri];done)) only [wkf, a13_1, c3i, g6, g8, c4, c5, c6, hQl, go_sem, seval, dis])
                exact hK3 _ _ (at_headM (by decide) (by simp only [List.map_cons, List.map_nil, go_sem, seval]; exact rfl) (by rfl) (by rfl) (by rfl))
        · have hje : j = pl.length - d := by omega
          have c3i : ¬ (j : Int) < ((pl.length - d : Nat) : Int) := by omega
          have hK3 := hK (i + j, b2) (by simp only []; omega) ⟨hij, hbb2, hjm, hinv2⟩
          simp only [] at hK3
          (simp (disch:=first|decide|omega|(intros;exact Eq.trans rfl rfl)|(simp only[puri];done)) only [wkf, a13_1, c3i, go_sem, seval, dis])
          exact hK3 _ _ (at_headM (by decide) (by simp only [List.map_cons, List.map_nil, go_sem, seval]; exact rfl) (by rfl) (by rfl) (by rfl))
      · have hend : fromF (RS.drop i) b (most - (i : Int)) = [] := by
          rcases Nat.lt_or_ge i RS.length with h3 | h3
          · rw [fromF_drop _ _ _ _ h3, if_pos (by omega)]
          · exact fromF_end _ _ _ _ h3
        rw [hend, List.append_nil] at hinv
        rw [hinv] at hZ
        generalize (RS.take i).map Rec.enc = Q at *
        (simp (disch:=first|decide|omega|(intros;exact Eq.trans rfl rfl)|(simp only[puri];done)) only [wkf, a13_0, c1, c2, hQl, go_sem, seval, dis])
        rw [hZ]
        try simp [trim, hQt]
    · rw [fromF_end _ _ _ _ (by omega), List.append_nil] at hinv
      rw [hinv] at hZ
      generalize (RS.take i).map Rec.enc = Q at *
      (simp (disch:=first|decide|omega|(intros;exact Eq.trans rfl rfl)|(simp only[puri];done)) only [wkf, a13_0, c1, hQl, go_sem, seval, dis])
      rw [hZ]
      try simp [trim, hQt]
end Go.Proofs.Ytijnkmjbfekajaa

namespace Go.Proofs.Ytijnkmjbfekajaa
open Go.Vi
structure Act where
  kind : Int
  n : Int
  data : List UInt8
  deriving DecidableEq
def Act.enc (e : Act) : List D := [.i .i64 e.kind, .i .i64 e.n, .s e.data]
theorem Act.len (e : Act) : e.enc.length = 3 := Eq.trans rfl rfl
theorem Act.tk (e : Act) : e.enc.take 3 = e.enc := Eq.trans rfl rfl
theorem Act.tkL (e : Act) : (e.enc.map L.d).take 3 = e.enc.map L.d := Eq.trans rfl rfl
theorem Act.dat (e : Act) : dataLs (e.enc.map L.d) = some (e.enc.map L.d) := Eq.trans rfl rfl
theorem Act.lenL (e : Act) : (e.enc.map L.d).length = 3 := Eq.trans rfl rfl
theorem Act.at0 (e : Act) : e.enc[0]? = some (.i .i64 e.kind) := Eq.trans rfl rfl
theorem Act.fd0 (e : Act) : (e.enc.map L.d)[0]? = some (.d (.i .i64 e.kind)) := Eq.trans rfl rfl
theorem Act.at1 (e : Act) : (e.enc.drop 1)[0]? = some (.i .i64 e.n) := Eq.trans rfl rfl
theorem Act.fd1 (e : Act) : (e.enc.map L.d)[1]? = some (.d (.i .i64 e.n)) := Eq.trans rfl rfl
theorem Act.at2 (e : Act) : (e.enc.drop 2)[0]? = some (.s e.data) := Eq.trans rfl rfl
theorem Act.fd2 (e : Act) : (e.enc.map L.d)[2]? = some (.d (.s e.data)) := Eq.trans rfl rfl
theorem Act.up1 (e : Act) (x : Int) : e.enc.take 1 ++ [.i .i64 x] ++ e.enc.drop 2 = ({ e with n := x } : Act).enc := Eq.trans rfl rfl
theorem Act.up2 (e : Act) (x : List UInt8) : e.enc.take 2 ++ [.s x] ++ e.enc.drop 3 = ({ e with data := x } : Act).enc := Eq.trans rfl rfl
def Act.ok (e : Act) : Prop := (-9223372036854775808 ≤ e.kind ∧ e.kind < 9223372036854775808) ∧ (-9223372036854775808 ≤ e.n ∧ e.n < 9223372036854775808) ∧ e.data.length ≤ 9223372036854775807
def Act.ty : List Ty := [.i .i64, .i .i64, .s]
theorem Act.eqs (a b : Act) : scEqs [0, 0, 2] (a.enc.map L.d) (b.enc.map L.d) = some (decide (a = b)) := by
  cases a; cases b
  simp only [Act.enc, List.map_cons, List.map_nil, scEqs, scEq, if_true, Act.mk.injEq]
  congr 1
  rw [Bool.eq_iff_iff]
  simp only [Bool.and_eq_true, beq_iff_eq, decide_eq_true_eq, and_true]
theorem Act.of (r : List D) (h : wfRow Act.ty r) : ∃ e : Act, r = e.enc ∧ e.ok := by
  simp only [Act.ty, wfRow, wfT] at h
  obtain ⟨_, _, rfl, ⟨x0, rfl, h0, g0⟩, ⟨_, _, rfl, ⟨x1, rfl, h1, g1⟩, ⟨_, _, rfl, ⟨x2, rfl, h2⟩, rfl⟩⟩⟩ := h
  refine ⟨⟨x0, x1, x2⟩, rfl, ?_⟩
  exact ⟨⟨Int.le_trans (by decide) h0, Int.lt_of_le_of_lt g0 (by decide)⟩, ⟨Int.le_trans (by decide) h1, Int.lt_of_le_of_lt g1 (by decide)⟩, h2⟩
def armD (d : Dsk) (n : Int) : Dsk := { d with armed := decide (0 ≤ n), left := if 0 < n then n else 0 }
def limD (d : Dsk) (n : Int) : Dsk := { d with cap := if 0 < n then n else 0 }
theorem arm_spec (d : Dsk) (n : Int) (hn : -9223372036854775808 ≤ n ∧ n < 9223372036854775808) : call 18 [.agg d.l, vi n] [] = some (.agg (armD d n).l, []) := by
  apply enterS s18 rfl
  obtain ⟨fl, cp, ar, lf, dn⟩ := d
  unfold armD
  by_cases c : 0 < n
  · have c2 : 0 ≤ n := by omega
    (simp (disch:=first|decide|omega|(intros;exact Eq.trans rfl rfl)|(simp only[puri];done)) only [wkf, a18, Dsk.l, c, c2, go_sem, seval, dis])
    try simp [trim]
    try omega
  · have c3 : ¬ n > 0 := c
    (simp (disch:=first|decide|omega|(intros;exact Eq.trans rfl rfl)|(simp only[puri];done)) only [wkf, a18, Dsk.l, c, go_sem, seval, dis])
    try simp [trim]
    try omega
theorem lim_spec (d : Dsk) (n : Int) (hn : -9223372036854775808 ≤ n ∧ n < 9223372036854775808) : call 19 [.agg d.l, vi n] [] = some (.agg (limD d n).l, []) := by
  apply enterS s19 rfl
  obtain ⟨fl, cp, ar, lf, dn⟩ := d
  unfold limD
  by_cases c : 0 < n
  · (simp (disch:=first|decide|omega|(intros;exact Eq.trans rfl rfl)|(simp only[puri];done)) only [wkf, a19, Dsk.l, c, go_sem, seval, dis])
    try simp [trim]
    try omega
  · (simp (disch:=first|decide|omega|(intros;exact Eq.trans rfl rfl)|(simp only[puri];done)) only [wkf, a19, Dsk.l, c, go_sem, seval, dis])
    try simp [trim]
    try omega
def doT (s : Sto) (seg : Int) (a : Act) : Sto × Int :=
  if a.kind = 1 then syncT s else if a.kind = 2 then ({ s with disk := armD s.disk a.n }, 0) else if a.kind = 3 then ({ s with disk := limD s.disk a.n }, 0) else appT s seg ⟨s.next + a.n.tmod 3, 7, a.data⟩
theorem tm3 (n : Int) : -2 ≤ n.tmod 3 ∧ n.tmod 3 ≤ 2 := by
  rcases Int.le_total 0 n with h | h
  · rw [Int.tmod_eq_emod_of_nonneg h]; omega
  · have := Int.tmod_eq_emod_of_nonneg (a := -n) (b := 3) (by omega)
    rw [Int.neg_tmod] at this; omega
theorem doT_ok {k u : Nat} {s : Sto} (h : okS k u s) (seg : Int) (a : Act) (ha : a.ok) : okS (k + 2) (u + 1000) (doT s seg a).1 := by
  have h2 := h.up (k' := k + 2) (u' := u + 1000) (by omega) (by omega)
  have hn := ha.2.1
  unfold doT
  split
  · exact (syncT_ok h).up (by omega) (by omega)
  · split
    · refine ⟨⟨h2.dsk.len, h2.dsk.srt, ?_, h2.dsk.cap, h2.dsk.used⟩, h2.len, h2.seg, h2.next, h2.ver, h2.sum⟩
      show 0 ≤ (if 0 < a.n then a.n else 0) ∧ (if 0 < a.n then a.n else 0) < 9223372036854775808
      split <;> omega
    · split
      · refine ⟨⟨h2.dsk.len, h2.dsk.srt, h2.dsk.left, ?_, h2.dsk.used⟩, h2.len, h2.seg, h2.next, h2.ver, h2.sum⟩
        show 0 ≤ (if 0 < a.n then a.n else 0) ∧ (if 0 < a.n then a.n else 0) < 9223372036854775808
        split <;> omega
      · exact appT_ok h seg _
set_option maxRecDepth 8000 in
theorem do_spec {k u : Nat} (s : Sto) (h : okS k u s) (hk : k ≤ 700000) (hu : u ≤ 700000000000) (seg : Int) (a : Act) (ha : a.ok) : call 8 [.agg s.l, vi seg, .agg (a.enc.map .d)] [] = some (stoV (doT s seg a), []) := by
  have q1 := sync_spec s h (by omega) (by omega)
  have q2 := arm_spec s.disk a.n ha.2.1
  have q3 := lim_spec s.disk a.n ha.2.1
  have ht := tm3 a.n
  have hnx := h.next
  have q4 := append_sto s h hk hu seg ⟨s.next + a.n.tmod 3, 7, a.data⟩ ⟨by simp only []; omega, by simp only []; omega, ha.2.2⟩
  unfold doT
  generalize syncT s = r1 at *
  generalize appT s seg ⟨s.next + a.n.tmod 3, 7, a.data⟩ = r4 at *
  generalize armD s.disk a.n = d2 at *
  generalize limD s.disk a.n = d3 at *
  obtain ⟨⟨fl, cp, ar, lf, dn⟩, ver, segs, next, sure, size, sum⟩ := s
  obtain ⟨⟨⟨fl1, cp1, ar1, lf1, dn1⟩, ver1, segs1, next1, sure1, size1, sum1⟩, e1⟩ := r1
  obtain ⟨⟨⟨fl4, cp4, ar4, lf4, dn4⟩, ver4, segs4, next4, sure4, size4, sum4⟩, e4⟩ := r4
  obtain ⟨fl2, cp2, ar2, lf2, dn2⟩ := d2
  obtain ⟨fl3, cp3, ar3, lf3, dn3⟩ := d3
  obtain ⟨ak, an, ad⟩ := a
  simp only [Act.enc, Rec.enc, List.map_cons, List.map_nil, Sto.l, Dsk.l, stoV, List.cons_append, List.nil_append] at q1 q2 q3 q4 ht hnx ⊢
  apply enterS s8 rfl
  by_cases c1 : ak = 1
  · (simp (disch:=first|decide|omega|(intros;exact Eq.trans rfl rfl)|(simp only[puri];done)) only [wkf, a8, c1, q1, go_sem, seval, dis])
    try simp [trim]
  · by_cases c2 : ak = 2
    · subst c2
      (simp (disch:=first|decide|omega|(intros;exact Eq.trans rfl rfl)|(simp only[puri];done)) only [wkf, a8, q2, go_sem, seval, dis])
      try simp [trim]
    · by_cases c3 : ak = 3
      · subst c3
        (simp (disch:=first|decide|omega|(intros;exact Eq.trans rfl rfl)|(simp only[puri];done)) only [wkf, a8, q3, go_sem, seval, dis])
        try simp [trim]
      · (simp (disch:=first|decide|omega|(intros;exact Eq.trans rfl rfl)|(simp only[puri];done)) only [wkf, a8, c1, c2, c3, q4, go_sem, seval, dis])
        try simp [trim, c1, c2, c3]
def shortF (l : List Act) : Bool := decide (l.length ≤ 40) && l.all fun a => decide (a.data.length ≤ 100)
theorem short12_spec (l : List Act) (hl : l.length ≤ 9223372036854775807) : call 5 [vl (l.map Act.enc)] [] = some (vb (shortF l), []) := by
  apply enterS s5 rfl
  unfold shortF
  by_cases c : l.length ≤ 40
  · have c2 : ¬ (40 : Int) < l.length := by omega
    rw [decide_eq_true c, Bool.true_and]
    (simp (disch:=first|decide|omega|(intros;exact Eq.trans rfl rfl)|(simp only[puri];done)) only [a5, c2, go_sem, seval, dis])
    obtain ⟨Z, hZ⟩ : ∃ Z : V, Z = vb (l.all fun a => decide (a.data.length ≤ 100)) := ⟨_, rfl⟩
    rw [← hZ]
    refine loop_data (σ := Nat) (fun k => l.length - k) (fun k => k ≤ l.length ∧ (l.all fun a => decide (a.data.length ≤ 100)) = ((l.drop k).all fun a => decide (a.data.length ≤ 100))) (fun k => [vl (l.map Act.enc), vi k])
      (fun k => (Z, [])) (fun _ => by simp only [go_sem, seval]) ?_ 0 ⟨Nat.zero_le _, rfl⟩ _ (by simp [go_sem, seval])
    rintro k ⟨hk, he⟩ R hR
    rw [he] at hZ
    rcases Nat.lt_or_ge k l.length with h | h
    · have g1 : (l.map Act.enc)[k]? = some l[k].enc := by simp [h]
      rw [List.drop_eq_getElem_cons h, List.all_cons] at hZ he
      by_cases c3 : l[k].data.length ≤ 100
      · have c4 : ¬ (100 : Int) < l[k].data.length := by omega
        rw [decide_eq_true c3, Bool.true_and] at he
        (simp (disch:=first|decide|omega|(intros;exact Eq.trans rfl rfl)|(simp only[puri];done)) only [a5_0, g1, h, Act.len, Act.at2, c4, go_sem, seval, dis])
        exact hR (k + 1) (by first | omega | (simp only []; omega)) ⟨by omega, he⟩ _ (by simp [go_sem, seval])
      · have c4 : (100 : Int) < l[k].data.length := by omega
        rw [decide_eq_false c3, Bool.false_and] at hZ
        (simp (disch:=first|decide|omega|(intros;exact Eq.trans rfl rfl)|(simp only[puri];done)) only [a5_0, g1, h, Act.len, Act.at2, c4, go_sem, seval, dis])
        rw [hZ]
    · rw [List.drop_of_length_le h] at hZ
      (simp (disch:=first|decide|omega|(intros;exact Eq.trans rfl rfl)|(simp only[puri];done)) only [a5_0, h, go_sem, seval, dis])
      rw [hZ]; rfl
  · have c2 : (40 : Int) < l.length := by omega
    rw [decide_eq_false c, Bool.false_and]
    (simp (disch:=first|decide|omega|(intros;exact Eq.trans rfl rfl)|(simp only[puri];done)) only [a5, c2, go_sem, seval, dis])
end Go.Proofs.Ytijnkmjbfekajaa

namespace Go.Proofs.Ytijnkmjbfekajaa
open Go.Vi
theorem createT_ok {k u : Nat} {d : Dsk} (h : okN k u d) (h0 : (createT d).2 = 0) : okS (k + 2) (u + 1000) (createT d).1 ∧ (∀ seg : Int, 0 ≤ seg → Hold 0 seg (createT d).1 []) ∧ (createT d).1.next = 0 ∧ (createT d).1.sure = 0 := by
  have k1 := crt_ok (s := (d, 0)) h (fileN 0)
  unfold createT at h0 ⊢
  simp only [] at h0 ⊢
  have k2 : okN (k + 2) (u + 1000) (if (crtS (fileN 0) (d, 0)).2 = 0 then swapS ⟨1, [0], 0, 0⟩ (crtS (fileN 0) (d, 0)) else crtS (fileN 0) (d, 0)).1 := by
    split
    · exact (swap_okN k1 _).up (by omega) (by omega)
    · exact k1.up (by omega) (by omega)
  have hd : (crtS (fileN 0) (d, 0)).2 = 0 → hasD (if (crtS (fileN 0) (d, 0)).2 = 0 then swapS ⟨1, [0], 0, 0⟩ (crtS (fileN 0) (d, 0)) else crtS (fileN 0) (d, 0)).1.files (fileN 0) [] := fun hc => by
    rw [if_pos hc]; exact swap_keep k1 _ (fileN_n _ _) (fileN_n _ _) (crt_new hc)
  have hc : (if (crtS (fileN 0) (d, 0)).2 = 0 then swapS ⟨1, [0], 0, 0⟩ (crtS (fileN 0) (d, 0)) else crtS (fileN 0) (d, 0)).2 = 0 → (crtS (fileN 0) (d, 0)).2 = 0 := fun hx => by
    by_cases hc : (crtS (fileN 0) (d, 0)).2 = 0
    · exact hc
    · rw [if_neg hc] at hx; exact hx
  generalize (if (crtS (fileN 0) (d, 0)).2 = 0 then swapS ⟨1, [0], 0, 0⟩ (crtS (fileN 0) (d, 0)) else crtS (fileN 0) (d, 0)) = s2 at *
  by_cases c : s2.2 = 0
  · rw [if_pos c]
    have hd := hd (hc c)
    refine ⟨⟨k2, by simp, ?_, by simp, ⟨by simp, by simp only []; omega⟩, by simp⟩, fun seg hs => ⟨[], ⟨0, 0, 0⟩, [], ⟨rfl, ?_, rfl, rfl, by simp⟩, ⟨fun p hp => (by cases hp), by simp only []; omega⟩, rfl⟩, rfl, rfl⟩
    · intro g hg
      simp only [List.mem_singleton] at hg
      subst hg
      simp
      omega
    · intro p hp
      simp only [List.nil_append, List.mem_singleton] at hp
      subst hp
      exact ⟨hd, fun r hr => (by cases hr), fun k hk => (by simp at hk), rfl, rfl⟩
  · rw [if_neg c] at h0; exact absurd h0 c
theorem do_hold {k u : Nat} {seg : Int} {s : Sto} {R : List Rec} (ho : okS k u s) (h : Hold 0 seg s R) (hseg : 1 ≤ seg) (a : Act) :
    s.sure ≤ (doT s seg a).1.sure ∧ (a.kind = 1 → (doT s seg a).2 = 0 → (doT s seg a).1.sure = (doT s seg a).1.next) ∧ ((a.kind = 2 ∨ a.kind = 3) → (doT s seg a).2 = 0) ∧
      ((a.kind ≠ 1 ∧ a.kind ≠ 2 ∧ a.kind ≠ 3 ∧ (doT s seg a).2 = 0) → Hold 0 seg (doT s seg a).1 (R ++ [⟨R.length, 7, a.data⟩])) ∧ (¬ (a.kind ≠ 1 ∧ a.kind ≠ 2 ∧ a.kind ≠ 3 ∧ (doT s seg a).2 = 0) → Hold 0 seg (doT s seg a).1 R) := by
  unfold doT
  by_cases c1 : a.kind = 1
  · rw [if_pos c1]
    exact ⟨sync_mono ho h.sure.2, fun _ h0 => sync_sure h0, by omega, fun h => absurd c1 h.1, fun _ => sync_hold ho h⟩
  · rw [if_neg c1]
    by_cases c2 : a.kind = 2
    · rw [if_pos c2]
      exact ⟨Int.le_refl _, by omega, fun _ => rfl, fun h => absurd c2 h.2.1, fun _ => disk_hold h _ rfl⟩
    · rw [if_neg c2]
      by_cases c3 : a.kind = 3
      · rw [if_pos c3]
        exact ⟨Int.le_refl _, by omega, fun _ => rfl, fun h => absurd c3 h.2.2.1, fun _ => disk_hold h _ rfl⟩
      · rw [if_neg c3]
        obtain ⟨h1, h2⟩ := app_hold ho h hseg ⟨s.next + a.n.tmod 3, 7, a.data⟩
        have hn := h.next
        refine ⟨h1, by omega, by omega, ?_, ?_⟩
        · rintro ⟨_, _, _, h0⟩
          rcases h2 with ⟨h3, _⟩ | ⟨_, h3, _, h4⟩
          · exact absurd h0 h3
          · have e : s.next + a.n.tmod 3 = (R.length : Int) := by simp only [] at h3; omega
            rw [e] at h4 ⊢; exact h4
        · intro h0
          rcases h2 with ⟨_, h3⟩ | ⟨h3, _⟩
          · exact h3
          · exact absurd ⟨c1, c2, c3, h3⟩ h0
def d0 : Dsk := ⟨[], 0, false, 0, false⟩
theorem d0_ok : okN 0 0 d0 := ⟨Nat.le_refl _, List.Pairwise.nil, by decide, by decide, Nat.le_refl _⟩
def abc (i : Nat) : Rec := ⟨i, 0, [UInt8.ofNat (97 + i)]⟩
def stA : Nat → Sto
  | 0 => (createT d0).1
  | i + 1 => (appT (stA i) 100 (abc i)).1
theorem d0_new : (createT d0).2 = 0 := by decide +kernel
theorem stA_1 : (appT (stA 0) 100 (abc 0)).2 = 0 := by decide +kernel
theorem stA_2 : (appT (stA 1) 100 (abc 1)).2 = 0 := by decide +kernel
theorem stA_3 : (appT (stA 2) 100 (abc 2)).2 = 0 := by decide +kernel
theorem stA_ok : ∀ i, i ≤ 3 → okS (10 + 2 * i) (2000 + 1000 * i) (stA i) ∧ Hold 0 100 (stA i) ((List.range i).map abc)
  | 0, _ => by
    obtain ⟨h1, h2, h3, h4⟩ := createT_ok d0_ok d0_new
    exact ⟨h1.up (by omega) (by omega), h2 100 (by decide)⟩
  | i + 1, hi => by
    obtain ⟨h1, h2⟩ := stA_ok i (by omega)
    have h3 := (app_hold h1 h2 (by decide) (abc i)).2
    have h4 : (appT (stA i) 100 (abc i)).2 = 0 := by
      rcases (by omega : i = 0 ∨ i = 1 ∨ i = 2) with rfl | rfl | rfl
      · exact stA_1
      · exact stA_2
      · exact stA_3
    refine ⟨(appT_ok h1 100 (abc i)).up (by omega) (by omega), ?_⟩
    rcases h3 with ⟨h5, _⟩ | ⟨_, _, _, h5⟩
    · exact absurd h4 h5
    · rw [List.range_succ, List.map_append]; exact h5
theorem stA_s : (syncT (stA 3)).2 = 0 := by decide +kernel
theorem from_awake : (fromT (syncT (stA 3)).1 0 [abc 0, abc 1, abc 2] 1 1000 9).length = 2 := by
  obtain ⟨h1, h2⟩ := stA_ok 3 (by decide)
  have h3 := sync_hold h1 h2
  have hf := h3.floor
  have hs := sync_sure stA_s
  have hn := h2.next
  have e : (syncT (stA 3)).1.sure = 3 := by rw [hs, hn]; rfl
  unfold fromT
  rw [hf, e, if_neg (by decide)]
  have z0 := sizeR_le (r := abc 1)
  have z1 := sizeR_le (r := abc 2)
  show (fromF [abc 1, abc 2] 1000 9).length = 2
  simp only [fromF]
  rw [if_neg (by decide), if_neg (by omega), if_neg (by decide), if_neg (by omega)]
  try rfl
set_option maxRecDepth 20000 in
theorem awake12_spec : call 6 [] [] = some (vb true, []) := by
  obtain ⟨h1, h2⟩ := stA_ok 3 (by decide)
  have h3 := sync_hold h1 h2
  have h4 := syncT_ok h1
  have hs := sync_sure stA_s
  have hn := h2.next
  have e : (syncT (stA 3)).1.sure = 3 := by rw [hs, hn]; rfl
  have g0 := new_spec d0 d0_ok (by decide) (by decide)
  have g1 := sync_spec (stA 3) h1 (by decide) (by decide)
  have g2 := read_sto (syncT (stA 3)).1 h4 (by decide) (by decide) 1
  have g3 : readT (syncT (stA 3)).1 1 = .tup [(true, [.d (.i .i64 1), .d (.i .i64 0), .d (.s [98])]), (false, [.d (.i .i64 0)])] := (read_hold h4 h3 1 (by decide)).2.2
  have g4 := from_sto (syncT (stA 3)).1 _ h4 h3 (by decide) (by decide) (by decide) 1 1000 9 (by decide) (by decide)
  have g5 := from_awake
  have g6 : (List.range 3).map abc = [abc 0, abc 1, abc 2] := rfl
  rw [g6] at g4
  rw [g3] at g2
  generalize fromT (syncT (stA 3)).1 0 [abc 0, abc 1, abc 2] 1 1000 9 = FR at *
  have a0 : createT d0 = (stA 0, 0) := by rw [← d0_new]; rfl
  rw [a0] at g0
  have a4 : syncT (stA 3) = ((syncT (stA 3)).1, 0) := by rw [← stA_s]
  rw [a4] at g1
  have ap : ∀ i, i < 3 → call 11 [.agg (stA i).l, vi 100, .agg ((abc i).enc.map .d)] [] = some (stoV (stA (i + 1), 0), []) := by
    intro i hi
    obtain ⟨h5, h6⟩ := stA_ok i (by omega)
    have h8 : (abc i).ok := by
      rcases (by omega : i = 0 ∨ i = 1 ∨ i = 2) with rfl | rfl | rfl <;> exact ⟨by decide, by decide, by decide⟩
    have h7 := append_sto (stA i) h5 (by omega) (by omega) 100 (abc i) h8
    have h4 : appT (stA i) 100 (abc i) = (stA (i + 1), 0) := by
      rcases (by omega : i = 0 ∨ i = 1 ∨ i = 2) with rfl | rfl | rfl
      · rw [← stA_1]; rfl
      · rw [← stA_2]; rfl
      · rw [← stA_3]; rfl
    rw [h4] at h7; exact h7
  generalize (syncT (stA 3)).1 = sx at *
  clear a0 a4 h1 h2 h3 h4 hs hn g3
  have hcell : ∀ s : Sto, s.l = [.d (.l (s.disk.files.map Fil.enc)), .d (.i .i64 s.disk.cap), .d (.b s.disk.armed), .d (.i .i64 s.disk.left), .d (.b s.disk.down), .d (.i .i64 s.ver), .d (.l (s.segs.map Seg.enc)), .d (.i .i64 s.next), .d (.i .i64 s.sure), .d (.i .i64 s.size), .d (.i .u32 s.sum)] := fun _ => rfl
  have hd0 : d0.l = [.d (.l []), .d (.i .i64 0), .d (.b false), .d (.i .i64 0), .d (.b false)] := rfl
  have ap0 := ap 0 (by decide)
  have ap1 := ap 1 (by decide)
  have ap2 := ap 2 (by decide)
  simp only [stoV, hcell, hd0, abc, Rec.enc, List.map_cons, List.map_nil] at g0 g1 g2 g4 ap0 ap1 ap2
  clear ap
  generalize stA = S at *
  have b0 : (((0 : Nat) : Int)) = 0 := rfl
  have b1 : (((1 : Nat) : Int)) = 1 := rfl
  have b2 : (((2 : Nat) : Int)) = 2 := rfl
  have u0 : UInt8.ofNat (97 + 0) = 97 := rfl
  have u1 : UInt8.ofNat (97 + 1) = 98 := rfl
  have u2 : UInt8.ofNat (97 + 2) = 99 := rfl
  simp only [u0, u1, u2, Nat.zero_add, Nat.reduceAdd] at ap0 ap1 ap2
  simp only [b0] at ap0
  simp only [b1] at ap1
  simp only [b2] at ap2
  apply enterS s6 rfl
  (simp (disch:=first|decide|omega|(intros;exact Eq.trans rfl rfl)|(simp only[puri];done)) only [wkf, a6, g0, go_sem, seval, dis])
  refine loop_boxM (m := 0) (σ := Nat) (fun i => 3 - i) (fun i => i ≤ 3) (fun i => [V.one (.p 0 0), vi 0, vi i])
    (fun i => [.cells [.d (.l ((S i).disk.files.map Fil.enc)), .d (.i .i64 (S i).disk.cap), .d (.b (S i).disk.armed), .d (.i .i64 (S i).disk.left), .d (.b (S i).disk.down), .d (.i .i64 (S i).ver), .d (.l ((S i).segs.map Seg.enc)), .d (.i .i64 (S i).next), .d (.i .i64 (S i).sure), .d (.i .i64 (S i).size), .d (.i .u32 (S i).sum)]]) (fun _ => (vb true, [])) ?_ 0 (by decide) _ _ ?_
  rotate_left
  · exact (at_headM (by decide) (by simp only [List.map_cons, List.map_nil, go_sem, seval]; exact rfl) (by rfl) (by rfl) (by rfl))
  intro i hi R hR
  rcases (by omega : i = 0 ∨ i = 1 ∨ i = 2 ∨ i = 3) with rfl | rfl | rfl | rfl
  · (simp (disch:=first|decide|omega|(intros;exact Eq.trans rfl rfl)|(simp only[puri];done)) only [wkf, a6_0, ap0, go_sem, seval, dis, vdr, A.kind, A.xs, optX])
    exact hR 1 (by decide) (by decide) _ _ (at_headM (by decide) (by simp only [List.map_cons, List.map_nil, go_sem, seval]; exact rfl) (by rfl) (by rfl) (by rfl))
  · (simp (disch:=first|decide|omega|(intros;exact Eq.trans rfl rfl)|(simp only[puri];done)) only [wkf, a6_0, ap1, go_sem, seval, dis, vdr, A.kind, A.xs, optX])
    exact hR 2 (by decide) (by decide) _ _ (at_headM (by decide) (by simp only [List.map_cons, List.map_nil, go_sem, seval]; exact rfl) (by rfl) (by rfl) (by rfl))
  · (simp (disch:=first|decide|omega|(intros;exact Eq.trans rfl rfl)|(simp only[puri];done)) only [wkf, a6_0, ap2, go_sem, seval, dis, vdr, A.kind, A.xs, optX])
    exact hR 3 (by decide) (by decide) _ _ (at_headM (by decide) (by simp only [List.map_cons, List.map_nil, go_sem, seval]; exact rfl) (by rfl) (by rfl) (by rfl))
  · have g5' : (FR.map Rec.enc).length = 2 := by simpa using g5
    generalize FR.map Rec.enc = FQ at *
    have eb : (([98] : Txt) == [98]) = true := rfl
    have e3 : (sx.sure == 3) = true := by rw [e]; rfl
    (simp (disch:=first|decide|omega|(intros;exact Eq.trans rfl rfl)|(simp only[puri];done)) only [wkf, a6_0, g1, g2, g4, g5', eq_true e, e3, eb, go_sem, seval, dis, vdr, A.kind, A.xs, optX])
    try simp [trim]
end Go.Proofs.Ytijnkmjbfekajaa

namespace Go.Proofs.Ytijnkmjbfekajaa
open Go.Vi
def encT (s : Txt) : List D := [.s s]
theorem encT_len (s : Txt) : (encT s).length = 1 := Eq.trans rfl rfl
theorem encT_at (s : Txt) : (encT s)[0]? = some (.s s) := Eq.trans rfl rfl
def das (R : List Rec) : List (List D) := R.map fun r => encT r.da
theorem das_len (R : List Rec) : (das R).length = R.length := by simp [das]
theorem das_snoc (R : List Rec) (r : Rec) : das (R ++ [r]) = das R ++ [[.s r.da]] := by simp [das, encT]
set_option maxRecDepth 20000 in
theorem keeps_law1 (seg : Nat) (hs : seg < 256) (l : List Act) (hl : l.length ≤ 9223372036854775807) (hok : ∀ a ∈ l, a.ok) :
    call 3 [vk .u8 (seg : Nat), vl (l.map Act.enc)] [] = some (vb true, []) := by
  have q1 := short12_spec l hl
  apply enterS s3 rfl
  have q2 := awake12_spec
  cases c0 : shortF l with
  | false =>
    rw [c0] at q1
    (simp (disch:=first|decide|omega|(intros;exact Eq.trans rfl rfl)|(simp only[puri];done)) only [a3, q1, q2, go_sem, seval, dis])
  | true =>
    rw [c0] at q1
    have hlen : l.length ≤ 40 := by
      unfold shortF at c0
      simp only [Bool.and_eq_true, decide_eq_true_eq] at c0
      exact c0.1
    have q3 := new_spec d0 d0_ok (by decide) (by decide)
    obtain ⟨o1, hd1, n1, s1⟩ := createT_ok d0_ok d0_new
    have hd1 := hd1 (20 + seg) (by omega)
    have hcell : ∀ s : Sto, s.l = [.d (.l (s.disk.files.map Fil.enc)), .d (.i .i64 s.disk.cap), .d (.b s.disk.armed), .d (.i .i64 s.disk.left), .d (.b s.disk.down), .d (.i .i64 s.ver), .d (.l (s.segs.map Seg.enc)), .d (.i .i64 s.next), .d (.i .i64 s.sure), .d (.i .i64 s.size), .d (.i .u32 s.sum)] := fun _ => rfl
    have hd0 : d0.l = [.d (.l []), .d (.i .i64 0), .d (.b false), .d (.i .i64 0), .d (.b false)] := rfl
    generalize createT d0 = r0 at *
    obtain ⟨st0, e0⟩ := r0
    simp only [stoV, hcell, hd0] at q3 o1 hd1 n1 s1
    (simp (disch:=first|decide|omega|(intros;exact Eq.trans rfl rfl)|(simp only[puri];done)) only [wkf, a3, q1, q3, go_sem, seval, dis])
    refine loop_boxM (m := 0) (σ := Nat × Sto × List Rec) (fun t => l.length - t.1) (fun t => t.1 ≤ l.length ∧ okS (10 + 2 * t.1) (2000 + 1000 * t.1) t.2.1 ∧ Hold 0 (20 + seg) t.2.1 t.2.2 ∧ (∀ r ∈ t.2.2, r.ti = 7) ∧ t.2.2.length ≤ t.1) (fun t => [vk .u8 (seg : Nat), vl (l.map Act.enc), V.one (.p 0 0), V.one (.sl 1 1 0 t.2.2.length), vi t.1])
      (fun t => [.cells [.d (.l (t.2.1.disk.files.map Fil.enc)), .d (.i .i64 t.2.1.disk.cap), .d (.b t.2.1.disk.armed), .d (.i .i64 t.2.1.disk.left), .d (.b t.2.1.disk.down), .d (.i .i64 t.2.1.ver), .d (.l (t.2.1.segs.map Seg.enc)), .d (.i .i64 t.2.1.next), .d (.i .i64 t.2.1.sure), .d (.i .i64 t.2.1.size), .d (.i .u32 t.2.1.sum)], .arr 1 (das t.2.2) 0]) (fun _ => (vb true, [])) ?_ (0, st0, []) ⟨Nat.zero_le _, o1.up (by omega) (by omega), hd1, fun r hr => (by cases hr), Nat.le_refl _⟩ _ _ ?_
    rotate_left
    · exact (at_headM (by decide) (by simp only [List.map_cons, List.map_nil, go_sem, seval]; exact rfl) (by rfl) (by rfl) (by rfl))
    rintro ⟨i, s, R⟩ ⟨hi, ho, hh, ht, hRl⟩ K hK
    simp only at hi ho hh ht hRl ⊢
    have hnx := hh.next
    have hsu := hh.sure
    by_cases c1 : i < l.length
    · have g1 : (l.map Act.enc)[i]? = some l[i].enc := by simp [c1]
      have ha := hok _ (List.getElem_mem c1)
      have g2 := do_spec s ho (by omega) (by omega) (20 + seg) l[i] ha
      have o2 := doT_ok ho (20 + seg) l[i] ha
      obtain ⟨d1, d2, d3, d4, d5⟩ := do_hold ho hh (by omega) l[i]
      generalize doT s (20 + seg) l[i] = r at *
      obtain ⟨x, e⟩ := r
      have hsl : ¬ (s.segs.length : Int) = 0 := by have := ho.len; omega
      have hdl := das_len R
      have hc1 : (i : Int) < (l.length : Int) := by omega
      generalize l[i] = a at *
      obtain ⟨ak, an, ad⟩ := a
      simp only [stoV, hcell, Act.enc, List.map_cons, List.map_nil] at g1 g2 o2 d1 d2 d3 d4 d5 ⊢
      have hRm : R.length ≤ 1000 := by omega
      have hb20 : (20 : Int) + (seg : Nat) ≤ 1000 := by omega
      by_cases k1 : ak = 1
      · subst k1
        by_cases k0 : e = 0
        · subst k0
          have hs1 := d2 rfl rfl
          have e4 : (x.sure != x.next) = false := by simp only [bne_eq_false_iff_eq]; exact hs1
          have hx := d5 (by simp)
          have hxn := hx.next
          have hxs := hx.sure
          have e1 : (x.next != ((R.length : Nat) : Int)) = false := by simp only [bne_eq_false_iff_eq]; omega
          have e2 : ¬ x.sure < s.sure := by omega
          have e3 : ¬ x.next < x.sure := by omega
          have hK2 := hK (i + 1, x, R) (by simp only []; omega) ⟨by simp only []; omega, o2.up (by simp only []; omega) (by simp only []; omega), hx, ?_, ?_⟩
          · simp only [] at hK2
            generalize das R = Q at *
            (simp (disch:=first|decide|omega|(intros;exact Eq.trans rfl rfl)|(simp only[puri];done)) only [wkf, a3_0, hc1, hsl, g1, g2, Act.len, Act.tk, Act.tkL, e1, e2, e3, hdl, hRm, e4, go_sem, seval, dis, vdr, A.kind, A.xs, optX])
            exact hK2 _ _ (at_headM (by decide) (by simp only [List.map_cons, List.map_nil, go_sem, seval]; exact rfl) (by rfl) (by rfl) (by rfl))
          · exact ht
          · simp only []; omega
        · have e5 : (e == 0) = false := by simpa using k0
          have hx := d5 (by simp)
          have hxn := hx.next
          have hxs := hx.sure
          have e1 : (x.next != ((R.length : Nat) : Int)) = false := by simp only [bne_eq_false_iff_eq]; omega
          have e2 : ¬ x.sure < s.sure := by omega
          have e3 : ¬ x.next < x.sure := by omega
          have hK2 := hK (i + 1, x, R) (by simp only []; omega) ⟨by simp only []; omega, o2.up (by simp only []; omega) (by simp only []; omega), hx, ?_, ?_⟩
          · simp only [] at hK2
            generalize das R = Q at *
            (simp (disch:=first|decide|omega|(intros;exact Eq.trans rfl rfl)|(simp only[puri];done)) only [wkf, a3_0, hc1, hsl, g1, g2, Act.len, Act.tk, Act.tkL, e1, e2, e3, hdl, hRm, k0, e5, go_sem, seval, dis, vdr, A.kind, A.xs, optX])
            exact hK2 _ _ (at_headM (by decide) (by simp only [List.map_cons, List.map_nil, go_sem, seval]; exact rfl) (by rfl) (by rfl) (by rfl))
          · exact ht
          · simp only []; omega
      · by_cases k2 : ak = 2
        · subst k2
          have k0 := d3 (.inl rfl)
          subst k0
          have hx := d5 (by simp)
          have hxn := hx.next
          have hxs := hx.sure
          have e1 : (x.next != ((R.length : Nat) : Int)) = false := by simp only [bne_eq_false_iff_eq]; omega
          have e2 : ¬ x.sure < s.sure := by omega
          have e3 : ¬ x.next < x.sure := by omega
          have hK2 := hK (i + 1, x, R) (by simp only []; omega) ⟨by simp only []; omega, o2.up (by simp only []; omega) (by simp only []; omega), hx, ?_, ?_⟩
          · simp only [] at hK2
            generalize das R = Q at *
            (simp (disch:=first|decide|omega|(intros;exact Eq.trans rfl rfl)|(simp only[puri];done)) only [wkf, a3_0, hc1, hsl, g1, g2, Act.len, Act.tk, Act.tkL, e1, e2, e3, hdl, hRm, go_sem, go_sem, seval, dis, vdr, A.kind, A.xs, optX])
            exact hK2 _ _ (at_headM (by decide) (by simp only [List.map_cons, List.map_nil, go_sem, seval]; exact rfl) (by rfl) (by rfl) (by rfl))
          · exact ht
          · simp only []; omega
        · by_cases k3 : ak = 3
          · subst k3
            have k0 := d3 (.inr rfl)
            subst k0
            have hx := d5 (by simp)
            have hxn := hx.next
            have hxs := hx.sure
            have e1 : (x.next != ((R.length : Nat) : Int)) = false := by simp only [bne_eq_false_iff_eq]; omega
            have e2 : ¬ x.sure < s.sure := by omega
            have e3 : ¬ x.next < x.sure := by omega
            have hK2 := hK (i + 1, x, R) (by simp only []; omega) ⟨by simp only []; omega, o2.up (by simp only []; omega) (by simp only []; omega), hx, ?_, ?_⟩
            · simp only [] at hK2
              generalize das R = Q at *
              (simp (disch:=first|decide|omega|(intros;exact Eq.trans rfl rfl)|(simp only[puri];done)) only [wkf, a3_0, hc1, hsl, g1, g2, Act.len, Act.tk, Act.tkL, e1, e2, e3, hdl, hRm, go_sem, go_sem, seval, dis, vdr, A.kind, A.xs, optX])
              exact hK2 _ _ (at_headM (by decide) (by simp only [List.map_cons, List.map_nil, go_sem, seval]; exact rfl) (by rfl) (by rfl) (by rfl))
            · exact ht
            · simp only []; omega
          · by_cases k0 : e = 0
            · subst k0
              have hx := d4 ⟨k1, k2, k3, rfl⟩
              have hR' : (R ++ [(⟨R.length, 7, ad⟩ : Rec)]).length = R.length + 1 := by simp
              have hxn := hx.next
              have hxs := hx.sure
              rw [hR'] at hxn
              have e1 : (x.next != ((R.length + 1 : Nat) : Int)) = false := by simp only [bne_eq_false_iff_eq]; omega
              have e2 : ¬ x.sure < s.sure := by omega
              have e3 : ¬ x.next < x.sure := by omega
              have hK2 := hK (i + 1, x, R ++ [⟨R.length, 7, ad⟩]) (by simp only []; omega) ⟨by simp only []; omega, o2.up (by simp only []; omega) (by simp only []; omega), hx, ?_, ?_⟩
              · rw [das_snoc, hR'] at hK2
                generalize das R = Q at *
                (simp (disch:=first|decide|omega|(intros;exact Eq.trans rfl rfl)|(simp only[puri];done)) only [wkf, a3_0, hc1, hsl, g1, g2, Act.len, Act.tk, Act.tkL, e1, e2, e3, hdl, hRm, k1, k2, k3, go_sem, seval, dis, vdr, A.kind, A.xs, optX])
                exact hK2 _ _ (at_headM (by decide) (by simp only [List.map_cons, List.map_nil, go_sem, seval]; exact rfl) (by rfl) (by rfl) (by rfl))
              · intro r hr
                rcases List.mem_append.1 hr with hr | hr
                · exact ht r hr
                · rw [List.mem_singleton.1 hr]
              · simp only []; rw [hR']; omega
            · have e5 : (e == 0) = false := by simpa using k0
              have hx := d5 (by simp [k0])
              have hxn := hx.next
              have hxs := hx.sure
              have e1 : (x.next != ((R.length : Nat) : Int)) = false := by simp only [bne_eq_false_iff_eq]; omega
              have e2 : ¬ x.sure < s.sure := by omega
              have e3 : ¬ x.next < x.sure := by omega
              have hK2 := hK (i + 1, x, R) (by simp only []; omega) ⟨by simp only []; omega, o2.up (by simp only []; omega) (by simp only []; omega), hx, ?_, ?_⟩
              · simp only [] at hK2
                generalize das R = Q at *
                (simp (disch:=first|decide|omega|(intros;exact Eq.trans rfl rfl)|(simp only[puri];done)) only [wkf, a3_0, hc1, hsl, g1, g2, Act.len, Act.tk, Act.tkL, e1, e2, e3, hdl, hRm, k1, k2, k3, k0, e5, go_sem, seval, dis, vdr, A.kind, A.xs, optX])
                exact hK2 _ _ (at_headM (by decide) (by simp only [List.map_cons, List.map_nil, go_sem, seval]; exact rfl) (by rfl) (by rfl) (by rfl))
              · exact ht
              · simp only []; omega
    · have hc1 : ¬ (i : Int) < (l.length : Int) := by omega
      have hRm : R.length ≤ 1000 := by omega
      (simp (disch:=first|decide|omega|(intros;exact Eq.trans rfl rfl)|(simp only[puri];done)) only [a3_0, hc1, go_sem, seval, dis])
      refine loop_boxM (m := 0) (σ := Nat) (fun j => R.length - j) (fun j => j ≤ R.length) (fun j => [V.one (.p 0 0), V.one (.sl 1 1 0 R.length), vi j])
        (fun _ => [.cells [.d (.l (s.disk.files.map Fil.enc)), .d (.i .i64 s.disk.cap), .d (.b s.disk.armed), .d (.i .i64 s.disk.left), .d (.b s.disk.down), .d (.i .i64 s.ver), .d (.l (s.segs.map Seg.enc)), .d (.i .i64 s.next), .d (.i .i64 s.sure), .d (.i .i64 s.size), .d (.i .u32 s.sum)], .arr 1 (das R) 0]) (fun _ => (vb true, [])) ?_ 0 (Nat.zero_le _) _ _ ?_
      rotate_left
      · exact (at_headM (by decide) (by simp only [List.map_cons, List.map_nil, go_sem, seval]; exact rfl) (by rfl) (by rfl) (by rfl))
      intro j hj K2 hK2
      have hdl := das_len R
      by_cases c2 : j < R.length
      · have hc2 : (j : Int) < (R.length : Int) := by omega
        obtain ⟨r1, r2, r3⟩ := read_hold ho hh j c2
        have r4 := read_sto s ho (by omega) (by omega) (j : Int)
        have e0 : (0 : Int) + (j : Nat) = (j : Nat) := by omega
        rw [e0] at r1 r3
        rw [r3] at r4
        have r5 := ht _ (List.getElem_mem c2)
        have g1 : (das R)[j]? = some (encT R[j].da) := by unfold das; simp [c2]
        have hq := Rec.eqs R[j] R[j]
        generalize das R = Q at *
        generalize R[j] = r at *
        obtain ⟨ra, rt, rd⟩ := r
        simp only at r1 r5 g1
        subst r1 r5
        simp only [Rec.enc, hcell, List.map_cons, List.map_nil, decide_true] at r4 hq
        (simp (disch:=first|decide|omega|(intros;exact Eq.trans rfl rfl)|(simp only[puri];done)) only [wkf, a3_1, hc2, r4, g1, encT_len, encT_at, hq, hdl, go_sem, seval, dis])
        exact hK2 (j + 1) (by omega) (by omega) _ _ (at_headM (by decide) (by simp only [List.map_cons, List.map_nil, go_sem, seval]; exact rfl) (by rfl) (by rfl) (by rfl))
      · have hc2 : ¬ (j : Int) < (R.length : Int) := by omega
        have r4 := read_sto s ho (by omega) (by omega) (R.length : Int)
        have r3 : readT s (R.length : Int) = .tup [(true, [.d (.i .i64 0), .d (.i .i64 0), .d (.s [])]), (false, [.d (.i .i64 6)])] := by
          unfold readT; rw [if_pos (.inr (by omega))]; rfl
        rw [r3] at r4
        simp only [hcell] at r4
        generalize das R = Q at *
        (simp (disch:=first|decide|omega|(intros;exact Eq.trans rfl rfl)|(simp only[puri];done)) only [wkf, a3_1, hc2, r4, q2, go_sem, seval, dis])
        try simp [trim]
end Go.Proofs.Ytijnkmjbfekajaa

namespace Go.Proofs.Ytijnkmjbfekajaa
open Go.Vi
theorem chain_at : ∀ (M : List SR) (b e : Int), chainM b M e → ∀ i (h : i < M.length), M[i].1.base = b + (recsM (M.take i)).length
  | [], b, e, _, i, h => by simp at h
  | q :: M, b, e, hc, 0, h => by obtain ⟨h1, _⟩ := hc; simp [recsM, h1]
  | q :: M, b, e, hc, i + 1, h => by
    obtain ⟨h1, h2, h3⟩ := hc
    have := chain_at M _ _ h3 i (by simpa using h)
    have e1 : recsM ((q :: M).take (i + 1)) = q.2 ++ recsM (M.take i) := rfl
    rw [List.getElem_cons_succ, this, e1, List.length_append]; omega
structure SegsOf (seg : Int) (s : Sto) (R : List Rec) (N : List SR) : Prop where
  segs : s.segs = N.map (·.1)
  recs : recsM N = R
  base : ∀ i (h : i < N.length), N[i].1.base = (recsM (N.take i)).length
  n : ∀ i (h : i < N.length), N[i].1.n = N[i].2.length
  size : ∀ i (h : i < N.length), N[i].1.size = (rowS N[i].2).length
  top : ∀ i (h : i < N.length), N[i].1.size ≤ seg + 90
  full : ∀ i (h : i < N.length), i + 1 < N.length → seg ≤ N[i].1.size ∧ 1 ≤ N[i].1.n
theorem hold_segs {seg : Int} {s : Sto} {R : List Rec} (h : Hold 0 seg s R) : ∃ N, SegsOf seg s R N := by
  obtain ⟨M, g, l, hi, hz, hr⟩ := h
  refine ⟨M ++ [(g, l)], by rw [hi.segs]; simp, hr, ?_, fun i h => (hi.file _ (List.getElem_mem h)).n, fun i h => (hi.file _ (List.getElem_mem h)).size, ?_, ?_⟩
  · intro i h
    rcases Nat.lt_or_ge i M.length with h2 | h2
    · rw [List.getElem_append_left h2, List.take_append_of_le_length (by omega), chain_at _ _ _ hi.chain i h2]; omega
    · have : i = M.length := by simp at h; omega
      subst this
      have := chain_len _ _ _ hi.chain
      simp only [List.getElem_concat_length, List.take_left']
      omega
  · intro i h
    rcases Nat.lt_or_ge i M.length with h2 | h2
    · rw [List.getElem_append_left h2]; exact (hz.old _ (List.getElem_mem h2)).2
    · have : i = M.length := by simp at h; omega
      subst this
      simp only [List.getElem_concat_length]; exact hz.last
  · intro i h h2
    have h2 : i < M.length := by simp at h2; omega
    rw [List.getElem_append_left h2]
    refine ⟨(hz.old _ (List.getElem_mem h2)).1, ?_⟩
    have h3 := (chain_mem _ _ _ hi.chain).2 _ (List.getElem_mem h2)
    have h4 := (hi.file M[i] (List.mem_append_left _ (List.getElem_mem h2))).n
    omega
theorem recs_at (N : List SR) (i j : Nat) (h : i < N.length) (hj : j < N[i].2.length) : (recsM N)[(recsM (N.take i)).length + j]? = some N[i].2[j] := by
  have e : N = N.take i ++ ([N[i]] ++ N.drop (i + 1)) := by rw [List.singleton_append, ← List.drop_eq_getElem_cons h, List.take_append_drop]
  have e2 : recsM N = recsM (N.take i) ++ (N[i].2 ++ recsM (N.drop (i + 1))) := by
    conv => lhs; rw [e]
    rw [recsM_app, recsM_app, recsM_one]
  rw [e2, List.getElem?_append_right (by omega), Nat.add_sub_cancel_left, List.getElem?_append_left hj, List.getElem?_eq_getElem hj]
theorem recs_next (N : List SR) (i : Nat) (h : i < N.length) : recsM (N.take (i + 1)) = recsM (N.take i) ++ N[i].2 := by
  rw [List.take_succ_eq_append_getElem h, recsM_app, recsM_one]
end Go.Proofs.Ytijnkmjbfekajaa

namespace Go.Proofs.Ytijnkmjbfekajaa
open Go.Vi
set_option maxRecDepth 20000 in
theorem sizes_law1 (seg : Nat) (hs : seg < 256) (l : List Act) (hl : l.length ≤ 9223372036854775807) (hok : ∀ a ∈ l, a.ok) :
    call 4 [vk .u8 (seg : Nat), vl (l.map Act.enc)] [] = some (vb true, []) := by
  have q1 := short12_spec l hl
  apply enterS s4 rfl
  have q2 := awake12_spec
  cases c0 : shortF l with
  | false =>
    rw [c0] at q1
    (simp (disch:=first|decide|omega|(intros;exact Eq.trans rfl rfl)|(simp only[puri];done)) only [a4, q1, q2, go_sem, seval, dis])
  | true =>
    rw [c0] at q1
    have hlen : l.length ≤ 40 := by
      unfold shortF at c0
      simp only [Bool.and_eq_true, decide_eq_true_eq] at c0
      exact c0.1
    have q3 := new_spec d0 d0_ok (by decide) (by decide)
    obtain ⟨o1, hd1, n1, s1⟩ := createT_ok d0_ok d0_new
    have hd1 := hd1 (20 + seg) (by omega)
    have hcell : ∀ s : Sto, s.l = [.d (.l (s.disk.files.map Fil.enc)), .d (.i .i64 s.disk.cap), .d (.b s.disk.armed), .d (.i .i64 s.disk.left), .d (.b s.disk.down), .d (.i .i64 s.ver), .d (.l (s.segs.map Seg.enc)), .d (.i .i64 s.next), .d (.i .i64 s.sure), .d (.i .i64 s.size), .d (.i .u32 s.sum)] := fun _ => rfl
    have hd0 : d0.l = [.d (.l []), .d (.i .i64 0), .d (.b false), .d (.i .i64 0), .d (.b false)] := rfl
    generalize createT d0 = r0 at *
    obtain ⟨st0, e0⟩ := r0
    simp only [stoV, hcell, hd0] at q3 o1 hd1 n1 s1
    (simp (disch:=first|decide|omega|(intros;exact Eq.trans rfl rfl)|(simp only[puri];done)) only [wkf, a4, q1, q3, go_sem, seval, dis])
    refine loop_boxM (m := 0) (σ := Nat × Sto × List Rec) (fun t => l.length - t.1) (fun t => t.1 ≤ l.length ∧ okS (10 + 2 * t.1) (2000 + 1000 * t.1) t.2.1 ∧ Hold 0 (20 + seg) t.2.1 t.2.2 ∧ t.2.2.length ≤ t.1) (fun t => [vk .u8 (seg : Nat), vl (l.map Act.enc), V.one (.p 0 0), vi t.1])
      (fun t => [.cells [.d (.l (t.2.1.disk.files.map Fil.enc)), .d (.i .i64 t.2.1.disk.cap), .d (.b t.2.1.disk.armed), .d (.i .i64 t.2.1.disk.left), .d (.b t.2.1.disk.down), .d (.i .i64 t.2.1.ver), .d (.l (t.2.1.segs.map Seg.enc)), .d (.i .i64 t.2.1.next), .d (.i .i64 t.2.1.sure), .d (.i .i64 t.2.1.size), .d (.i .u32 t.2.1.sum)]]) (fun _ => (vb true, [])) ?_ (0, st0, []) ⟨Nat.zero_le _, o1.up (by omega) (by omega), hd1, Nat.le_refl _⟩ _ _ ?_
    rotate_left
    · exact (at_headM (by decide) (by simp only [List.map_cons, List.map_nil, go_sem, seval]; exact rfl) (by rfl) (by rfl) (by rfl))
    rintro ⟨i, s, R⟩ ⟨hi, ho, hh, hRl⟩ K hK
    simp only at hi ho hh hRl ⊢
    by_cases c1 : i < l.length
    · have g1 : (l.map Act.enc)[i]? = some l[i].enc := by simp [c1]
      have ha := hok _ (List.getElem_mem c1)
      have g2 := do_spec s ho (by omega) (by omega) (20 + seg) l[i] ha
      have o2 := doT_ok ho (20 + seg) l[i] ha
      obtain ⟨_, _, _, d4, d5⟩ := do_hold ho hh (by omega) l[i]
      have hx : ∃ R2 : List Rec, R2.length ≤ i + 1 ∧ Hold 0 (20 + seg) (doT s (20 + seg) l[i]).1 R2 := by
        by_cases hc : l[i].kind ≠ 1 ∧ l[i].kind ≠ 2 ∧ l[i].kind ≠ 3 ∧ (doT s (20 + seg) l[i]).2 = 0
        · exact ⟨_, by simp; omega, d4 hc⟩
        · exact ⟨R, by omega, d5 hc⟩
      obtain ⟨R2, hR2, hx⟩ := hx
      generalize doT s (20 + seg) l[i] = r at *
      obtain ⟨x, e⟩ := r
      have hsl : ¬ (s.segs.length : Int) = 0 := by have := ho.len; omega
      have hc1 : (i : Int) < (l.length : Int) := by omega
      generalize l[i] = a at *
      obtain ⟨ak, an, ad⟩ := a
      simp only [stoV, hcell, Act.enc, List.map_cons, List.map_nil] at g1 g2 o2 hx ⊢
      have hK2 := hK (i + 1, x, R2) (by simp only []; omega) ⟨by simp only []; omega, o2.up (by simp only []; omega) (by simp only []; omega), hx, hR2⟩
      (simp (disch:=first|decide|omega|(intros;exact Eq.trans rfl rfl)|(simp only[puri];done)) only [wkf, a4_0, hc1, hsl, g1, g2, go_sem, seval, dis])
      exact hK2 _ _ (at_headM (by decide) (by simp only [List.map_cons, List.map_nil, go_sem, seval]; exact rfl) (by rfl) (by rfl) (by rfl))
    · have hc1 : ¬ (i : Int) < (l.length : Int) := by omega
      obtain ⟨N, hN⟩ := hold_segs hh
      have hnx := hh.next
      (simp (disch:=first|decide|omega|(intros;exact Eq.trans rfl rfl)|(simp only[puri];done)) only [a4_0, hc1, go_sem, seval, dis])
      refine loop_boxM (m := 0) (σ := Nat) (fun j => N.length - j) (fun j => j ≤ N.length) (fun j => [vk .u8 (seg : Nat), V.one (.p 0 0), vi ((recsM (N.take j)).length : Nat), vi j])
        (fun _ => [.cells [.d (.l (s.disk.files.map Fil.enc)), .d (.i .i64 s.disk.cap), .d (.b s.disk.armed), .d (.i .i64 s.disk.left), .d (.b s.disk.down), .d (.i .i64 s.ver), .d (.l (s.segs.map Seg.enc)), .d (.i .i64 s.next), .d (.i .i64 s.sure), .d (.i .i64 s.size), .d (.i .u32 s.sum)]]) (fun _ => (vb true, [])) ?_ 0 (Nat.zero_le _) _ _ ?_
      rotate_left
      · exact (at_headM (by decide) (by simp only [List.map_cons, List.map_nil, go_sem, seval]; exact rfl) (by rfl) (by rfl) (by rfl))
      intro j hj K2 hK2
      have hsegl : s.segs.length = N.length := by rw [hN.segs]; simp
      have hRN : ∀ j, (recsM (N.take j)).length ≤ R.length := fun j => by
        have : recsM N = recsM (N.take j) ++ recsM (N.drop j) := by rw [← recsM_app, List.take_append_drop]
        rw [← hN.recs, this, List.length_append]; omega
      by_cases c2 : j < N.length
      · have hc2 : (j : Int) < (N.length : Int) := by omega
        have e1 := hN.base j c2
        have e2 := hN.n j c2
        have e3 := hN.size j c2
        have e4 := hN.top j c2
        have e5 := hN.full j c2
        have e6 := recs_next N j c2
        have hrd : ∀ t (ht : t < N[j].2.length), call 9 [.agg s.l, vi (((recsM (N.take j)).length + t : Nat) : Int)] [] = some (.tup [(true, N[j].2[t].enc.map .d), (false, [.d (.i .i64 0)])], []) ∧ whyF N[j].2[t] = 0 := by
          intro t ht
          have h1 := recs_at N j t c2 ht
          rw [hN.recs] at h1
          obtain ⟨h2, h3⟩ := List.getElem?_eq_some_iff.1 h1
          obtain ⟨_, r2, r3⟩ := read_hold ho hh _ h2
          have r4 := read_sto s ho (by omega) (by omega) (((recsM (N.take j)).length + t : Nat) : Int)
          have e0 : (0 : Int) + (((recsM (N.take j)).length + t : Nat) : Int) = (((recsM (N.take j)).length + t : Nat) : Int) := by omega
          rw [e0] at r3
          rw [r3, h3] at r4
          rw [h3] at r2
          exact ⟨r4, r2⟩
        have g1 : (s.segs.map Seg.enc)[j]? = some N[j].1.enc := by rw [hN.segs]; simp [c2]
        have hRj := hRN j
        have hRj1 := hRN (j + 1)
        rw [e6, List.length_append] at hRj1
        have hK3 := hK2 (j + 1) (by omega) (by omega)
        rw [e6, List.length_append] at hK3
        generalize (recsM (N.take j)).length = A0 at *
        generalize N[j] = p at *
        obtain ⟨⟨pb, pn, pz⟩, pl⟩ := p
        simp only at e1 e2 e3 e4 e5 hrd hRj1 hK3
        subst e1 e2 e3
        simp only [Seg.enc] at g1
        have c4 : ¬ ((20 : Int) + (seg : Nat) + 90 < ((rowS pl).length : Nat)) := by omega
        have hzb : (rowS pl).length ≤ 1000 := by omega
        have hNl : N.length ≤ 64 := by have := ho.len; omega
        by_cases c5 : j + 1 < N.length
        · obtain ⟨e6, e7⟩ := e5 c5
          have c8 : (j : Int) + 1 < (N.length : Int) := by omega
          have c9 : ¬ ((rowS pl).length : Int) < 20 + (seg : Nat) := by omega
          have c10 : ¬ (pl.length : Int) < 1 := by omega
          (simp (disch:=first|decide|omega|(intros;exact Eq.trans rfl rfl)|(simp only[puri];done)) only [wkf, a4_1, hc2, hsegl, g1, c4, c8, c9, c10, go_sem, seval, dis])
          refine loop_boxM (m := 0) (σ := Nat) (fun t => pl.length - t) (fun t => t ≤ pl.length) (fun t => [vk .u8 (seg : Nat), V.one (.p 0 0), vi ((A0 + pl.length : Nat) : Int), vi j, V.one (.p 1 0), vi ((rowS (pl.take t)).length : Nat), vi ((A0 + t : Nat) : Int)])
            (fun _ => [.cells [.d (.l (s.disk.files.map Fil.enc)), .d (.i .i64 s.disk.cap), .d (.b s.disk.armed), .d (.i .i64 s.disk.left), .d (.b s.disk.down), .d (.i .i64 s.ver), .d (.l (s.segs.map Seg.enc)), .d (.i .i64 s.next), .d (.i .i64 s.sure), .d (.i .i64 s.size), .d (.i .u32 s.sum)], .cells [.d (.i .i64 (A0 : Nat)), .d (.i .i64 (pl.length : Nat)), .d (.i .i64 ((rowS pl).length : Nat))]]) (fun _ => (vb true, [])) ?_ 0 (Nat.zero_le _) _ _ ?_
          rotate_left
          · have ea : ((A0 + pl.length : Nat) : Int) = (A0 : Int) + (pl.length : Int) := by omega
            rw [ea]
            exact (at_headM (by decide) (by simp only [List.map_cons, List.map_nil, go_sem, seval]; exact rfl) (by rfl) (by rfl) (by rfl))
          intro t ht K3 hK4
          have hrow : (rowS (pl.take t)).length ≤ (rowS pl).length := by
            have : rowS pl = rowS (pl.take t) ++ rowS (pl.drop t) := by unfold rowS; rw [← List.flatMap_append, List.take_append_drop]
            rw [this, List.length_append]; omega
          have ex : ((A0 + t : Nat) : Int) = (A0 : Int) + (t : Int) := by omega
          by_cases c6 : t < pl.length
          · have c7 : ((A0 + t : Nat) : Int) < ((A0 + pl.length : Nat) : Int) := by omega
            obtain ⟨r1, r2⟩ := hrd t c6
            have hfit := why_fit.1 r2
            have hro : pl[t].ok := ⟨by have := hfit.a0; have := hfit.a1; omega, by have := hfit.t0; have := hfit.t1; omega, by have := hfit.d; omega⟩
            have r3 := refSizeRec_spec pl[t] hro
            have hrs := rowS_succ pl t c6
            have hsz : (frameR pl[t]).length = sizeR pl[t] := by unfold sizeR; rw [if_pos r2]; rfl
            have hs82 := sizeR_le (r := pl[t])
            have hK5 := hK4 (t + 1) (by omega) (by omega)
            rw [hrs, List.length_append, hsz] at hK5
            have ex1 : ((A0 + (t + 1) : Nat) : Int) = ((A0 + t : Nat) : Int) + 1 := by omega
            have ex2 : (((rowS (pl.take t)).length + sizeR pl[t] : Nat) : Int) = ((rowS (pl.take t)).length : Int) + (sizeR pl[t] : Int) := by omega
            rw [ex1, ex2] at hK5
            have hbd : A0 + t ≤ 1000000 := by omega
            generalize pl[t] = rr at *
            obtain ⟨ra, rt, rd⟩ := rr
            simp only [Rec.enc, hcell, List.map_cons, List.map_nil] at r1 r3
            (simp (disch:=first|decide|omega|(intros;exact Eq.trans rfl rfl)|(simp only[puri];done)) only [wkf, a4_2, c7, r1, r3, go_sem, seval, dis])
            exact hK5 _ _ (at_headM (by decide) (by simp only [List.map_cons, List.map_nil, go_sem, seval]; exact rfl) (by rfl) (by rfl) (by rfl))
          · have hte : t = pl.length := by omega
            subst hte
            have c7 : ¬ ((A0 + pl.length : Nat) : Int) < ((A0 + pl.length : Nat) : Int) := by omega
            rw [List.take_length]
            generalize (rowS pl).length = z at *
            (simp (disch:=first|decide|omega|(intros;exact Eq.trans rfl rfl)|(simp only[puri];done)) only [wkf, a4_2, c7, go_sem, seval, dis])
            exact hK3 _ _ (at_headM (by decide) (by simp only [List.map_cons, List.map_nil, go_sem, seval]; exact rfl) (by rfl) (by rfl) (by rfl))
        · have c8 : ¬ (j : Int) + 1 < (N.length : Int) := by omega
          (simp (disch:=first|decide|omega|(intros;exact Eq.trans rfl rfl)|(simp only[puri];done)) only [wkf, a4_1, hc2, hsegl, g1, c4, c8, go_sem, seval, dis])
          refine loop_boxM (m := 0) (σ := Nat) (fun t => pl.length - t) (fun t => t ≤ pl.length) (fun t => [vk .u8 (seg : Nat), V.one (.p 0 0), vi ((A0 + pl.length : Nat) : Int), vi j, V.one (.p 1 0), vi ((rowS (pl.take t)).length : Nat), vi ((A0 + t : Nat) : Int)])
            (fun _ => [.cells [.d (.l (s.disk.files.map Fil.enc)), .d (.i .i64 s.disk.cap), .d (.b s.disk.armed), .d (.i .i64 s.disk.left), .d (.b s.disk.down), .d (.i .i64 s.ver), .d (.l (s.segs.map Seg.enc)), .d (.i .i64 s.next), .d (.i .i64 s.sure), .d (.i .i64 s.size), .d (.i .u32 s.sum)], .cells [.d (.i .i64 (A0 : Nat)), .d (.i .i64 (pl.length : Nat)), .d (.i .i64 ((rowS pl).length : Nat))]]) (fun _ => (vb true, [])) ?_ 0 (Nat.zero_le _) _ _ ?_
          rotate_left
          · have ea : ((A0 + pl.length : Nat) : Int) = (A0 : Int) + (pl.length : Int) := by omega
            rw [ea]
            exact (at_headM (by decide) (by simp only [List.map_cons, List.map_nil, go_sem, seval]; exact rfl) (by rfl) (by rfl) (by rfl))
          intro t ht K3 hK4
          have hrow : (rowS (pl.take t)).length ≤ (rowS pl).length := by
            have : rowS pl = rowS (pl.take t) ++ rowS (pl.drop t) := by unfold rowS; rw [← List.flatMap_append, List.take_append_drop]
            rw [this, List.length_append]; omega
          have ex : ((A0 + t : Nat) : Int) = (A0 : Int) + (t : Int) := by omega
          by_cases c6 : t < pl.length
          · have c7 : ((A0 + t : Nat) : Int) < ((A0 + pl.length : Nat) : Int) := by omega
            obtain ⟨r1, r2⟩ := hrd t c6
            have hfit := why_fit.1 r2
            have hro : pl[t].ok := ⟨by have := hfit.a0; have := hfit.a1; omega, by have := hfit.t0; have := hfit.t1; omega, by have := hfit.d; omega⟩
            have r3 := refSizeRec_spec pl[t] hro
            have hrs := rowS_succ pl t c6
            have hsz : (frameR pl[t]).length = sizeR pl[t] := by unfold sizeR; rw [if_pos r2]; rfl
            have hs82 := sizeR_le (r := pl[t])
            have hK5 := hK4 (t + 1) (by omega) (by omega)
            rw [hrs, List.length_append, hsz] at hK5
            have ex1 : ((A0 + (t + 1) : Nat) : Int) = ((A0 + t : Nat) : Int) + 1 := by omega
            have ex2 : (((rowS (pl.take t)).length + sizeR pl[t] : Nat) : Int) = ((rowS (pl.take t)).length : Int) + (sizeR pl[t] : Int) := by omega
            rw [ex1, ex2] at hK5
            have hbd : A0 + t ≤ 1000000 := by omega
            generalize pl[t] = rr at *
            obtain ⟨ra, rt, rd⟩ := rr
            simp only [Rec.enc, hcell, List.map_cons, List.map_nil] at r1 r3
            (simp (disch:=first|decide|omega|(intros;exact Eq.trans rfl rfl)|(simp only[puri];done)) only [wkf, a4_2, c7, r1, r3, go_sem, seval, dis])
            exact hK5 _ _ (at_headM (by decide) (by simp only [List.map_cons, List.map_nil, go_sem, seval]; exact rfl) (by rfl) (by rfl) (by rfl))
          · have hte : t = pl.length := by omega
            subst hte
            have c7 : ¬ ((A0 + pl.length : Nat) : Int) < ((A0 + pl.length : Nat) : Int) := by omega
            rw [List.take_length]
            generalize (rowS pl).length = z at *
            (simp (disch:=first|decide|omega|(intros;exact Eq.trans rfl rfl)|(simp only[puri];done)) only [wkf, a4_2, c7, go_sem, seval, dis])
            exact hK3 _ _ (at_headM (by decide) (by simp only [List.map_cons, List.map_nil, go_sem, seval]; exact rfl) (by rfl) (by rfl) (by rfl))
      · have hc2 : ¬ (j : Int) < (N.length : Int) := by omega
        have hjN : N.take j = N := List.take_of_length_le (by omega)
        rw [hjN, hN.recs]
        have e1 : ((R.length : Int) == s.next) = true := by simp only [beq_iff_eq]; omega
        have e2 : (R.length : Int) = s.next := by omega
        (simp (disch:=first|decide|omega|(intros;exact Eq.trans rfl rfl)|(simp only[puri];done)) only [wkf, a4_1, hc2, hsegl, q2, e1, go_sem, seval, dis])
        try simp [trim, e2]
end Go.Proofs.Ytijnkmjbfekajaa

namespace Go.Proofs.Ytijnkmjbfekajaa
open Go.Vi
theorem storeKeeps_pure (xs : List V) (h : wfAs [(false, [.i .u8]), (false, [.l [.i .i64, .i .i64, .s]])] xs) : call 3 xs [] = some (vb true, []) := by
  simp only [wfAs, wfA] at h
  obtain ⟨_, _, rfl, ⟨d, rfl, hd⟩, _, _, rfl, ⟨e, rfl, he⟩, rfl⟩ := h
  simp only [wfRow, wfT] at hd he
  obtain ⟨_, _, e1, ⟨b, rfl, h1, h2⟩, rfl⟩ := hd
  obtain ⟨_, _, e2, ⟨rows, rfl, hl, hr⟩, rfl⟩ := he
  cases e1; cases e2
  obtain ⟨l, rfl, ha⟩ := rows_map Act.of rows hr
  have h1' : 0 ≤ b := Int.le_trans (by decide) h1
  have h2' : b < 256 := Int.lt_of_le_of_lt h2 (by decide)
  have eb : ((b.toNat : Nat) : Int) = b := Int.toNat_of_nonneg h1'
  have := keeps_law1 b.toNat (by omega) l (by simpa using hl) ha
  rw [eb] at this
  exact this
theorem storeSizes_pure (xs : List V) (h : wfAs [(false, [.i .u8]), (false, [.l [.i .i64, .i .i64, .s]])] xs) : call 4 xs [] = some (vb true, []) := by
  simp only [wfAs, wfA] at h
  obtain ⟨_, _, rfl, ⟨d, rfl, hd⟩, _, _, rfl, ⟨e, rfl, he⟩, rfl⟩ := h
  simp only [wfRow, wfT] at hd he
  obtain ⟨_, _, e1, ⟨b, rfl, h1, h2⟩, rfl⟩ := hd
  obtain ⟨_, _, e2, ⟨rows, rfl, hl, hr⟩, rfl⟩ := he
  cases e1; cases e2
  obtain ⟨l, rfl, ha⟩ := rows_map Act.of rows hr
  have h1' : 0 ≤ b := Int.le_trans (by decide) h1
  have h2' : b < 256 := Int.lt_of_le_of_lt h2 (by decide)
  have eb : ((b.toNat : Nat) : Int) = b := Int.toNat_of_nonneg h1'
  have := sizes_law1 b.toNat (by omega) l (by simpa using hl) ha
  rw [eb] at this
  exact this
end Go.Proofs.Ytijnkmjbfekajaa

