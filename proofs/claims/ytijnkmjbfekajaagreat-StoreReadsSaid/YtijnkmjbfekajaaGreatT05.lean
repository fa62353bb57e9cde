import Derived.Test.YtijnkmjbfekajaaGreatT04
set_option linter.unusedSimpArgs false
set_option linter.unusedVariables false
namespace Go.Proofs.YtijnkmjbfekajaaGreat
open Go.Vi
structure SZ (seg : Int) (M : List SR) (g : Seg) : Prop where
  old : ∀ p ∈ M, seg ≤ p.1.size ∧ p.1.size ≤ seg + 90
  last : g.size ≤ seg + 90
def Hold (f seg : Int) (s : Sto) (R : List Rec) : Prop := ∃ M g l, Inv f s M g l ∧ SZ seg M g ∧ recsM (M ++ [(g, l)]) = R
theorem Hold.next {f seg : Int} {s : Sto} {R : List Rec} (h : Hold f seg s R) : s.next = f + R.length := by
  obtain ⟨M, g, l, hi, _, rfl⟩ := h
  have := chain_len _ _ _ hi.chain
  rw [recsM_app, recsM_one, List.length_append, hi.next]; simp only []; omega
theorem Hold.sure {f seg : Int} {s : Sto} {R : List Rec} (h : Hold f seg s R) : 0 ≤ s.sure ∧ s.sure ≤ s.next := by
  obtain ⟨M, g, l, hi, _, rfl⟩ := h; exact hi.sure
theorem put_sure (s : Sto) (x : Txt) : (putT s x).1.sure = s.sure := by unfold putT addSeg; simp only []; split <;> rfl
theorem roll_mono {k u : Nat} {s : Sto} (ho : okS k u s) (h : s.sure ≤ s.next) : s.sure ≤ (rollT s).1.sure := by
  have := sync_mono ho h
  unfold rollT
  split
  · exact Int.le_refl _
  · split
    · exact this
    · split <;> exact this
theorem put_hold {k u : Nat} {f seg : Int} {s : Sto} {M : List SR} {g : Seg} {l : List Rec} (ho : okS k u s) (h : Inv f s M g l) (hz : SZ seg M g) (hlt : g.size < seg) (r : Rec) (hr : whyF r = 0) (ha : r.at_ = s.next) :
    ((putT s (putF r).1).2 ≠ 0 ∧ Hold f seg (putT s (putF r).1).1 (recsM (M ++ [(g, l)]))) ∨ ((putT s (putF r).1).2 = 0 ∧ Hold f seg (putT s (putF r).1).1 (recsM (M ++ [(g, l)]) ++ [r])) := by
  rcases put_inv ho h r hr ha with ⟨h1, h2⟩ | ⟨h1, h2⟩
  · exact .inl ⟨h1, M, g, l, h2, hz, rfl⟩
  · refine .inr ⟨h1, M, _, _, h2, ⟨hz.old, ?_⟩, ?_⟩
    · have := putF_len r
      unfold putF at this
      rw [if_pos hr] at this
      simp only [] at this ⊢; omega
    · rw [recsM_app, recsM_one, recsM_app, recsM_one, List.append_assoc]
theorem app_hold {k u : Nat} {f seg : Int} {s : Sto} {R : List Rec} (ho : okS k u s) (h : Hold f seg s R) (hseg : 1 ≤ seg) (r : Rec) :
    s.sure ≤ (appT s seg r).1.sure ∧ (((appT s seg r).2 ≠ 0 ∧ Hold f seg (appT s seg r).1 R) ∨ ((appT s seg r).2 = 0 ∧ r.at_ = s.next ∧ whyF r = 0 ∧ Hold f seg (appT s seg r).1 (R ++ [r]))) := by
  have hsure := h.sure
  have h0 := h
  obtain ⟨M, g, l, hi, hz, rfl⟩ := h
  have hlast := hi.last
  unfold appT
  by_cases c1 : (putF r).2 ≠ 0 ∨ r.at_ ≠ s.next
  · rw [if_pos c1]; exact ⟨Int.le_refl _, .inl ⟨by simp, h0⟩⟩
  · rw [if_neg c1]
    simp only [not_or, Decidable.not_not] at c1
    obtain ⟨c1, ca⟩ := c1
    have hr : whyF r = 0 := by
      unfold putF at c1
      split at c1
      · assumption
      · exact c1
    by_cases c2 : 1099511627776 ≤ s.next
    · rw [if_pos c2]; exact ⟨Int.le_refl _, .inl ⟨by simp, h0⟩⟩
    · rw [if_neg c2]
      by_cases c3 : seg ≤ s.last.size
      · rw [if_pos c3]
        have hg := (hi.file (g, l) (by simp)).size
        rw [hlast] at c3
        have hl : l ≠ [] := by
          rintro rfl
          have e : rowS [] = [] := rfl
          rw [e] at hg; simp only [List.length_nil] at hg; omega
        have hm := roll_mono ho hsure.2
        have ho2 := rollT_ok ho
        rcases roll_inv ho hi hl with ⟨h1, h2⟩ | ⟨h1, h2⟩
        · rw [if_pos h1]
          exact ⟨hm, .inl ⟨h1, M, g, l, h2, hz, rfl⟩⟩
        · rw [if_neg (by simp [h1]), put_sure]
          have e : recsM ((M ++ [(g, l)]) ++ [(⟨s.next, 0, 0⟩, [])]) = recsM (M ++ [(g, l)]) := by rw [recsM_app, recsM_one]; simp
          have hz2 : SZ seg (M ++ [(g, l)]) ⟨s.next, 0, 0⟩ := by
            refine ⟨fun p hp => ?_, by simp only []; omega⟩
            rcases List.mem_append.1 hp with hp | hp
            · exact hz.old p hp
            · rw [List.mem_singleton.1 hp]; exact ⟨c3, hz.last⟩
          have hp := put_hold ho2 h2 hz2 (by simp only []; omega) r hr (by rw [rollT_next]; exact ca)
          rw [e] at hp
          refine ⟨hm, ?_⟩
          rcases hp with ⟨h3, h4⟩ | ⟨h3, h4⟩
          · exact .inl ⟨h3, h4⟩
          · exact .inr ⟨h3, ca, hr, h4⟩
      · rw [if_neg c3, put_sure]
        rw [hlast] at c3
        have hp := put_hold ho hi hz (by omega) r hr ca
        refine ⟨Int.le_refl _, ?_⟩
        rcases hp with ⟨h3, h4⟩ | ⟨h3, h4⟩
        · exact .inl ⟨h3, h4⟩
        · exact .inr ⟨h3, ca, hr, h4⟩
theorem sync_hold {k u : Nat} {f seg : Int} {s : Sto} {R : List Rec} (ho : okS k u s) (h : Hold f seg s R) : Hold f seg (syncT s).1 R := by
  obtain ⟨M, g, l, hi, hz, rfl⟩ := h
  exact ⟨M, g, l, sync_inv ho hi ho.next.1, hz, rfl⟩
theorem disk_hold {f seg : Int} {s : Sto} {R : List Rec} (h : Hold f seg s R) (d : Dsk) (hd : d.files = s.disk.files) : Hold f seg { s with disk := d } R := by
  obtain ⟨M, g, l, hi, hz, rfl⟩ := h
  exact ⟨M, g, l, hi.disk d fun p _ hp => by rw [hd]; exact hp, hz, rfl⟩
theorem read_hold {k u : Nat} {f seg : Int} {s : Sto} {R : List Rec} (ho : okS k u s) (h : Hold f seg s R) (i : Nat) (hi : i < R.length) :
    R[i].at_ = f + i ∧ whyF R[i] = 0 ∧ readT s (f + i) = .tup [(true, R[i].enc.map .d), (false, [.d (.i .i64 0)])] := by
  have hn := h.next
  obtain ⟨M, g, l, hv, hz, rfl⟩ := h
  obtain ⟨r, h1, h2, h3, h4⟩ := read_inv ho hv (f + i) (by omega) (by omega)
  have e : (f + (i : Int) - f).toNat = i := by omega
  rw [e, List.getElem?_eq_getElem hi, Option.some_inj] at h1
  rw [h1]
  exact ⟨h2, h3, h4⟩
end Go.Proofs.YtijnkmjbfekajaaGreat

namespace Go.Proofs.YtijnkmjbfekajaaGreat
open Go.Vi
def fromF : List Rec → Int → Int → List Rec
  | [], _, _ => []
  | r :: rs, b, m => if m ≤ 0 then [] else if b < sizeR r then [] else r :: fromF rs (b - sizeR r) (m - 1)
theorem fromF_drop (RS : List Rec) (i : Nat) (b m : Int) (h : i < RS.length) : fromF (RS.drop i) b m = if m ≤ 0 then [] else if b < sizeR RS[i] then [] else RS[i] :: fromF (RS.drop (i + 1)) (b - sizeR RS[i]) (m - 1) := by
  rw [List.drop_eq_getElem_cons h]; rfl
theorem fromF_end (RS : List Rec) (i : Nat) (b m : Int) (h : RS.length ≤ i) : fromF (RS.drop i) b m = [] := by
  rw [List.drop_of_length_le h]; rfl
def fromT (s : Sto) (f : Int) (R : List Rec) (off bytes most : Int) : List Rec := if off < s.floor then [] else fromF ((R.take (s.sure - f).toNat).drop (off - f).toNat) bytes most
theorem Hold.floor {f seg : Int} {s : Sto} {R : List Rec} (h : Hold f seg s R) : s.floor = f := by
  obtain ⟨M, g, l, hi, _, rfl⟩ := h
  unfold Sto.floor
  rw [hi.segs]
  cases hM : M with
  | nil => have := hi.chain; rw [hM] at this; simp only [chainM] at this; simp [this]
  | cons q M' => have := hi.chain; rw [hM] at this; simp [this.1]
theorem hold_loc {k u : Nat} {f seg : Int} {s : Sto} {R : List Rec} (ho : okS k u s) (h : Hold f seg s R) (off : Int) (h1 : f ≤ off) (h2 : off < s.next) :
    ∃ p : SR, s.hld off = p.1 ∧ p.1 ∈ s.segs ∧ p.1.base ≤ off ∧ off < p.1.base + p.2.length ∧ s.txt p.1 = rowS p.2 ∧ (scanS (rowS p.2) p.1.base).1.map (·.1) = p.2 ∧ (∀ r ∈ p.2, whyF r = 0) ∧ numB p.1.base p.2 ∧
      (∀ j, j < p.2.length - (off - p.1.base).toNat → R[(off - f).toNat + j]? = p.2[(off - p.1.base).toNat + j]?) := by
  have hn := h.next
  have hfl := h.floor
  obtain ⟨M, g, l, hi, hz, rfl⟩ := h
  obtain ⟨p, hp, e1, e2, e3, e6, e4⟩ := hld_loc off f _ M g l rfl hi.chain h1 (by have := hi.next; omega)
  have hf := hi.file p hp
  have hld : s.hld off = p.1 := by
    unfold Sto.hld
    rw [hi.segs]
    simp only [List.length_append, List.length_map, List.length_singleton, Nat.add_sub_cancel]
    exact e1
  have hpm : p.1 ∈ s.segs := by
    rw [hi.segs]
    rcases List.mem_append.1 hp with hp | hp
    · exact List.mem_append_left _ (List.mem_map_of_mem hp)
    · rw [List.mem_singleton.1 hp]; simp
  have hb := (ho.seg _ hpm).1
  refine ⟨p, hld, hpm, e2, e3, ?_, (scan_row p.2 p.1.base (by simp [offN]; omega) hf.why hf.num).1, hf.why, hf.num, ?_⟩
  · unfold Sto.txt
    rw [read_hasD ho.dsk.srt hf.has]
  · intro j hj
    have := e4 ((off - p.1.base).toNat + j) (by omega)
    rw [← this]; congr 1; omega
end Go.Proofs.YtijnkmjbfekajaaGreat

namespace Go.Proofs.YtijnkmjbfekajaaGreat
open Go.Vi
set_option maxRecDepth 8000 in
theorem from_sto {k u : Nat} {f seg : Int} (s : Sto) (R : List Rec) (h : okS k u s) (hh : Hold f seg s R) (hk : k ≤ 800000) (hu : u ≤ 1000000) (hR : R.length ≤ 1000000) (off bytes most : Int) (hf : 0 ≤ f) (hb : 0 ≤ bytes ∧ bytes ≤ 4611686018427387904) :
    call 20 [.agg s.l, vi off, vi bytes, vi most] [] = some (vl ((fromT s f R off bytes most).map Rec.enc), []) := by
  have q1 : call 13 [.agg s.l] [] = some (vi s.floor, []) := floor_spec s
  have hfl := hh.floor
  rw [hfl] at q1
  unfold fromT
  rw [hfl]
  have hnx := hh.next
  have hsu := hh.sure
  apply enterS s20 rfl
  by_cases c0 : off < f
  · rw [if_pos c0]
    obtain ⟨⟨fl, cp, ar, lf, dn⟩, ver, segs, next, sure, size, sum⟩ := s
    simp only [Sto.l, Dsk.l, List.cons_append, List.nil_append] at q1 ⊢
    (simp (disch:=first|decide|omega|(intros;exact Eq.trans rfl rfl)|(simp only[puri];done)) only [wkf, a20, q1, c0, go_sem, seval, dis])
    try simp [trim]
  · rw [if_neg c0]
    have hloc := fun o h1 h2 => hold_loc h hh o h1 h2
    have hhld := fun o => holder_spec s o (by have := h.len; omega) (by have := h.len; omega)
    have hrd := fun p : Seg => read_disk s.disk (Nat.le_trans h.dsk.len (by omega)) h.dsk.srt (fileN p.base)
    have htx : ∀ p : Seg, (s.txt p).length ≤ 1000000 := fun p => Nat.le_trans (readF_len _ _) (Nat.le_trans h.dsk.used hu)
    have hsg := h.seg
    have htxe : ∀ p : Seg, s.txt p = (readF s.disk.files (fileN p.base)).1 := fun _ => rfl
    have hle : (R.take (s.sure - f).toNat).length = (s.sure - f).toNat := by rw [List.length_take]; omega
    have hRg : ∀ i (hi : i < ((R.take (s.sure - f).toNat).drop (off - f).toNat).length), R[(off - f).toNat + i]? = some ((R.take (s.sure - f).toNat).drop (off - f).toNat)[i] := by
      intro i hi
      rw [List.getElem_drop, List.getElem_take, List.getElem?_eq_getElem]
    have hRSl : ((R.take (s.sure - f).toNat).drop (off - f).toNat).length = (s.sure - f).toNat - (off - f).toNat := by rw [List.length_drop, hle]
    generalize ((R.take (s.sure - f).toNat).drop (off - f).toNat) = RS at *
    have hidx : ∀ o, s.floor ≤ o → True := fun _ _ => trivial
    obtain ⟨Z, hZ⟩ : ∃ Z : V, Z = vl ((fromF RS bytes most).map Rec.enc) := ⟨_, rfl⟩
    rw [← hZ]
    have hcell : s.l = [.d (.l (s.disk.files.map Fil.enc)), .d (.i .i64 s.disk.cap), .d (.b s.disk.armed), .d (.i .i64 s.disk.left), .d (.b s.disk.down), .d (.i .i64 s.ver), .d (.l (s.segs.map Seg.enc)), .d (.i .i64 s.next), .d (.i .i64 s.sure), .d (.i .i64 s.size), .d (.i .u32 s.sum)] := rfl
    rw [hcell] at q1 ⊢
    have hdl : s.disk.l = [.d (.l (s.disk.files.map Fil.enc)), .d (.i .i64 s.disk.cap), .d (.b s.disk.armed), .d (.i .i64 s.disk.left), .d (.b s.disk.down)] := rfl
    (simp (disch:=first|decide|omega|(intros;exact Eq.trans rfl rfl)|(simp only[puri];done)) only [wkf, a20, q1, c0, go_sem, seval, dis])
    refine loop_boxM (m := 0) (σ := Nat × Int) (fun t => RS.length - t.1) (fun t => t.1 ≤ RS.length ∧ (0 ≤ t.2 ∧ t.2 ≤ 4611686018427387904) ∧ (t.1 = 0 ∨ t.1 ≤ most) ∧ fromF RS bytes most = RS.take t.1 ++ fromF (RS.drop t.1) t.2 (most - t.1)) (fun t => [vi (off + t.1), vi t.2, vi most, V.one (.p 0 0), V.one (.sl 1 3 0 t.1)])
      (fun t => [.cells [.d (.l (s.disk.files.map Fil.enc)), .d (.i .i64 s.disk.cap), .d (.b s.disk.armed), .d (.i .i64 s.disk.left), .d (.b s.disk.down), .d (.i .i64 s.ver), .d (.l (s.segs.map Seg.enc)), .d (.i .i64 s.next), .d (.i .i64 s.sure), .d (.i .i64 s.size), .d (.i .u32 s.sum)], .arr 3 ((RS.take t.1).map Rec.enc) 0]) (fun _ => (Z, [])) ?_ (0, bytes) ⟨Nat.zero_le _, hb, .inl rfl, by simp⟩ _ _ ?_
    rotate_left
    · have e : off + ((0 : Nat) : Int) = off := by omega
      simp only [e, List.take_zero, List.map_nil]
      exact (at_headM (by decide) (by simp only [List.map_cons, List.map_nil, go_sem, seval]; exact rfl) (by rfl) (by rfl) (by rfl))
    rintro ⟨i, b⟩ ⟨hi, hbb, him, hinv⟩ K hK
    simp only at hi hbb him hinv ⊢
    have hQl : ((RS.take i).map Rec.enc).length = i := by simp; omega
    have hQt : ((RS.take i).map Rec.enc).take i = (RS.take i).map Rec.enc := List.take_of_length_le (by omega)
    by_cases c1 : off + i < s.sure
    · by_cases c2 : (i : Int) < most
      · obtain ⟨p, e1, e2, e3, e4, e5, e6, e7, e8, e9⟩ := hloc (off + i) (by omega) (by omega)
        have g1 := hhld (off + i)
        rw [e1, hcell] at g1
        have hpb := (hsg _ e2).1
        have g2 := seg_int hpb
        have g3 := hrd p.1
        rw [← htxe, e5, hdl] at g3
        have g4 := scan_spec (rowS p.2) (by rw [← e5]; exact htx _) p.1.base (by omega)
        obtain ⟨d, hd⟩ : ∃ d : Nat, d = (off + i - p.1.base).toNat := ⟨_, rfl⟩
        rw [← hd] at e9
        have hd2 : off + (i : Int) - p.1.base = (d : Int) := by omega
        have hdl2 : d < p.2.length := by omega
        have hmn : (if ((p.2.length : Nat) : Int) < (d : Int) then ((p.2.length : Nat) : Int) else (d : Int)) = (d : Int) := by rw [if_neg (by omega)]
        have hpl : p.2.length ≤ 1000000 := Nat.le_trans (row_ge' _) (by rw [← e5]; exact htx _)
        have htkp : (p.2.map Rec.enc).take p.2.length = p.2.map Rec.enc := List.take_of_length_le (by simp)
        have hbo := bounds_lo (n := p.2.length) (k := d) (by omega)
        have hok : okRows 3 (p.2.map Rec.enc) = true := okRows_map Rec.len _
        have g5 : (scanS (rowS p.2) p.1.base).1.map (fun x => x.1.enc) = p.2.map Rec.enc := by
          conv => rhs; rw [← e6]
          rw [List.map_map]; rfl
        unfold scanV at g4
        rw [g5] at g4
        generalize scanS (rowS p.2) p.1.base = sc at *
        generalize (readF s.disk.files (fileN p.1.base)).2 = re at *
        generalize fileN p.1.base = N at *
        obtain ⟨⟨pb, pn, pz⟩, pl⟩ := p
        simp only [Seg.enc, List.map_cons, List.map_nil] at g1 g2 g3 g4 hd2 hmn hbo hok hpb hdl2 e3 e4 e9 e7 hpl htkp
        obtain ⟨DR, hDR⟩ : ∃ DR, (pl.map Rec.enc).drop d = DR := ⟨_, rfl⟩
        have hDRl : DR.length = pl.length - d := by rw [← hDR]; simp
        (simp (disch:=first|decide|omega|(intros;exact Eq.trans rfl rfl)|(simp only[puri];done)) only [wkf, a20_0, c1, c2, g1, g2, g3, g4, hd2, hmn, hbo, hok, htkp, hDR, hDRl, go_sem, seval, dis])
        clear g1 g2 g3 g4 g5 hhld hrd hmn
        refine loop_boxM (m := 0) (σ := Nat × Int) (fun t => pl.length - d - t.1) (fun t => t.1 ≤ pl.length - d ∧ i + t.1 ≤ RS.length ∧ (0 ≤ t.2 ∧ t.2 ≤ 4611686018427387904) ∧ (i + t.1 = 0 ∨ ((i + t.1 : Nat) : Int) ≤ most) ∧ fromF RS bytes most = RS.take (i + t.1) ++ fromF (RS.drop (i + t.1)) t.2 (most - ((i + t.1 : Nat) : Int))) (fun t => [vi (off + ((i + t.1 : Nat) : Int)), vi t.2, vi most, V.one (.p 0 0), V.one (.sl 1 3 0 (i + t.1)), vl DR, vi ((pl.length - d : Nat) : Int), vi t.1])
          (fun t => [.cells [.d (.l (s.disk.files.map Fil.enc)), .d (.i .i64 s.disk.cap), .d (.b s.disk.armed), .d (.i .i64 s.disk.left), .d (.b s.disk.down), .d (.i .i64 s.ver), .d (.l (s.segs.map Seg.enc)), .d (.i .i64 s.next), .d (.i .i64 s.sure), .d (.i .i64 s.size), .d (.i .u32 s.sum)], .arr 3 ((RS.take (i + t.1)).map Rec.enc) 0]) (fun _ => (Z, [])) ?_ (0, b) ⟨Nat.zero_le _, hi, hbb, him, hinv⟩ _ _ ?_
        rotate_left
        · exact (at_headM (by decide) (by simp only [List.map_cons, List.map_nil, go_sem, seval]; exact rfl) (by rfl) (by rfl) (by rfl))
        rintro ⟨j, b2⟩ ⟨hj, hij, hbb2, hjm, hinv2⟩ K2 hK2
        simp only at hj hij hbb2 hjm hinv2 ⊢
        by_cases c3 : j < pl.length - d
        · have hlt : d + j < pl.length := by omega
          have g6 : DR[j]? = some pl[d + j].enc := by rw [← hDR]; simp [hlt]
          have g7 := e9 j c3
          rw [List.getElem?_eq_getElem hlt] at g7
          have hw := e7 _ (List.getElem_mem hlt)
          have hfit := why_fit.1 hw
          have hro : pl[d + j].ok := ⟨by have := hfit.a0; have := hfit.a1; omega, by have := hfit.t0; have := hfit.t1; omega, by have := hfit.d; omega⟩
          have g8 := sizeRec_spec pl[d + j] hro
          have hz := sizeR_le (r := pl[d + j])
          have c3i : (j : Int) < ((pl.length - d : Nat) : Int) := by omega
          have hQl : ((RS.take (i + j)).map Rec.enc).length = i + j := by simp; omega
          have hQt : ((RS.take (i + j)).map Rec.enc).take (i + j) = (RS.take (i + j)).map Rec.enc := List.take_of_length_le (by omega)
          by_cases c4 : b2 - sizeR pl[d + j] < 0
          · have hend : fromF (RS.drop (i + j)) b2 (most - ((i + j : Nat) : Int)) = [] := by
              rcases Nat.lt_or_ge (i + j) RS.length with h3 | h3
              · rw [fromF_drop _ _ _ _ h3]
                have h5 := hRg (i + j) h3
                have h6 : (off + (i : Int) - f).toNat + j = (off - f).toNat + (i + j) := by omega
                rw [h6, h5, Option.some_inj] at g7
                rw [g7]
                split
                · rfl
                · rw [if_pos (by omega)]
              · exact fromF_end _ _ _ _ h3
            rw [hend, List.append_nil] at hinv2
            rw [hinv2] at hZ
            generalize pl[d + j] = r at *
            obtain ⟨ra, rt, rd⟩ := r
            generalize (RS.take (i + j)).map Rec.enc = Q at *
            simp only [Rec.enc, List.map_cons, List.map_nil] at g6 g8
            (simp (disch:=first|decide|omega|(intros;exact Eq.trans rfl rfl)|(simp only[puri];done)) only [wkf, a20_1, c3i, g6, g8, c4, hQl, go_sem, seval, dis])
            rw [hZ]
            try simp [trim, hQt]
          · by_cases c5 : s.sure ≤ off + ((i + j : Nat) : Int)
            · rw [fromF_end _ _ _ _ (by omega), List.append_nil] at hinv2
              rw [hinv2] at hZ
              generalize pl[d + j] = r at *
              obtain ⟨ra, rt, rd⟩ := r
              generalize (RS.take (i + j)).map Rec.enc = Q at *
              simp only [Rec.enc, List.map_cons, List.map_nil] at g6 g8
              (simp (disch:=first|decide|omega|(intros;exact Eq.trans rfl rfl)|(simp only[puri];done)) only [wkf, a20_1, c3i, g6, g8, c4, c5, hQl, go_sem, seval, dis])
              rw [hZ]
              try simp [trim, hQt]
            · have hlr : i + j < RS.length := by omega
              have hbs := fromF_drop RS (i + j) b2 (most - ((i + j : Nat) : Int)) hlr
              have h5 := hRg (i + j) hlr
              have h6 : (off + (i : Int) - f).toNat + j = (off - f).toNat + (i + j) := by omega
              rw [h6, h5, Option.some_inj] at g7
              by_cases c6 : ((i + j : Nat) : Int) = most
              · rw [hbs, if_pos (by omega), List.append_nil] at hinv2
                rw [hinv2] at hZ
                generalize pl[d + j] = r at *
                obtain ⟨ra, rt, rd⟩ := r
                generalize (RS.take (i + j)).map Rec.enc = Q at *
                simp only [Rec.enc, List.map_cons, List.map_nil] at g6 g8
                (simp (disch:=first|decide|omega|(intros;exact Eq.trans rfl rfl)|(simp only[puri];done)) only [wkf, a20_1, c3i, g6, g8, c4, c5, c6, hQl, go_sem, seval, dis])
                rw [hZ]
                try simp [trim, hQt]
              · rw [hbs, if_neg (by omega), g7, if_neg (by omega)] at hinv2
                have htk : RS.take (i + j) ++ [RS[i + j]] = RS.take (i + (j + 1)) := by
                  rw [← List.take_succ_eq_append_getElem hlr]; rfl
                rw [g7] at htk
                have hK3 := hK2 (j + 1, b2 - sizeR pl[d + j]) (by simp only []; omega) ⟨by simp only []; omega, by simp only []; omega, by simp only []; omega, .inr (by simp only []; omega), by
                  simp only []
                  rw [hinv2, ← htk, List.append_assoc, List.singleton_append]
                  have e1 : i + j + 1 = i + (j + 1) := by omega
                  have e2 : most - ((i + j : Nat) : Int) - 1 = most - ((i + (j + 1) : Nat) : Int) := by omega
                  rw [e1, e2]⟩
                simp only [] at hK3
                rw [← htk, List.map_append] at hK3
                have e3 : off + ((i + (j + 1) : Nat) : Int) = off + ((i + j : Nat) : Int) + 1 := by omega
                have e4 : i + (j + 1) = i + j + 1 := by omega
                rw [e3, e4] at hK3
                have c6' : ¬ ((i + j : Nat) : Int) = most := c6
                have hov : off + ((i + j : Nat) : Int) ≤ 2000000000000 := by omega
                have hov2 : 0 ≤ off + ((i + j : Nat) : Int) := by omega
                have hjl : i + j ≤ 1000000 := by omega
                clear hinv2 hbs htk
                generalize pl[d + j] = r at *
                obtain ⟨ra, rt, rd⟩ := r
                generalize (RS.take (i + j)).map Rec.enc = Q at *
                simp only [Rec.enc, List.map_cons, List.map_nil] at g6 g8 hK3
                (simp (disch:=first|decide|omega|(intros;exact Eq.trans rfl rfl)|(simp only[puri];done)) only [wkf, a20_1, c3i, g6, g8, c4, c5, c6, hQl, go_sem, seval, dis])
                exact hK3 _ _ (at_headM (by decide) (by simp only [List.map_cons, List.map_nil, go_sem, seval]; exact rfl) (by rfl) (by rfl) (by rfl))
        · have hje : j = pl.length - d := by omega
          have c3i : ¬ (j : Int) < ((pl.length - d : Nat) : Int) := by omega
          have hK3 := hK (i + j, b2) (by simp only []; omega) ⟨hij, hbb2, hjm, hinv2⟩
          simp only [] at hK3
          (simp (disch:=first|decide|omega|(intros;exact Eq.trans rfl rfl)|(simp only[puri];done)) only [wkf, a20_1, c3i, go_sem, seval, dis])
          exact hK3 _ _ (at_headM (by decide) (by simp only [List.map_cons, List.map_nil, go_sem, seval]; exact rfl) (by rfl) (by rfl) (by rfl))
      · have hend : fromF (RS.drop i) b (most - (i : Int)) = [] := by
          rcases Nat.lt_or_ge i RS.length with h3 | h3
          · rw [fromF_drop _ _ _ _ h3, if_pos (by omega)]
          · exact fromF_end _ _ _ _ h3
        rw [hend, List.append_nil] at hinv
        rw [hinv] at hZ
        generalize (RS.take i).map Rec.enc = Q at *
        (simp (disch:=first|decide|omega|(intros;exact Eq.trans rfl rfl)|(simp only[puri];done)) only [wkf, a20_0, c1, c2, hQl, go_sem, seval, dis])
        rw [hZ]
        try simp [trim, hQt]
    · rw [fromF_end _ _ _ _ (by omega), List.append_nil] at hinv
      rw [hinv] at hZ
      generalize (RS.take i).map Rec.enc = Q at *
      (simp (disch:=first|decide|omega|(intros;exact Eq.trans rfl rfl)|(simp only[puri];done)) only [wkf, a20_0, c1, hQl, go_sem, seval, dis])
      rw [hZ]
      try simp [trim, hQt]
end Go.Proofs.YtijnkmjbfekajaaGreat

namespace Go.Proofs.YtijnkmjbfekajaaGreat
open Go.Vi
structure Act where
  kind : Int
  n : Int
  data : List UInt8
  deriving DecidableEq
def Act.enc (e : Act) : List D := [.i .i64 e.kind, .i .i64 e.n, .s e.data]
theorem Act.len (e : Act) : e.enc.length = 3 := Eq.trans rfl rfl
theorem Act.tk (e : Act) : e.enc.take 3 = e.enc := Eq.trans rfl rfl
theorem Act.tkL (e : Act) : (e.enc.map L.d).take 3 = e.enc.map L.d := Eq.trans rfl rfl
theorem Act.dat (e : Act) : dataLs (e.enc.map L.d) = some (e.enc.map L.d) := Eq.trans rfl rfl
theorem Act.rfs (e : Act) : (e.enc.map L.d).flatMap L.refs = [] := Eq.trans rfl rfl
theorem Act.rn (e : Act) (g : Nat → Option Nat) : (e.enc.map L.d).map (L.ren g) = e.enc.map L.d := Eq.trans rfl rfl
theorem Act.lenL (e : Act) : (e.enc.map L.d).length = 3 := Eq.trans rfl rfl
theorem Act.at0 (e : Act) : e.enc[0]? = some (.i .i64 e.kind) := Eq.trans rfl rfl
theorem Act.fd0 (e : Act) : (e.enc.map L.d)[0]? = some (.d (.i .i64 e.kind)) := Eq.trans rfl rfl
theorem Act.at1 (e : Act) : (e.enc.drop 1)[0]? = some (.i .i64 e.n) := Eq.trans rfl rfl
theorem Act.fd1 (e : Act) : (e.enc.map L.d)[1]? = some (.d (.i .i64 e.n)) := Eq.trans rfl rfl
theorem Act.at2 (e : Act) : (e.enc.drop 2)[0]? = some (.s e.data) := Eq.trans rfl rfl
theorem Act.fd2 (e : Act) : (e.enc.map L.d)[2]? = some (.d (.s e.data)) := Eq.trans rfl rfl
theorem Act.up1 (e : Act) (x : Int) : e.enc.take 1 ++ [.i .i64 x] ++ e.enc.drop 2 = ({ e with n := x } : Act).enc := Eq.trans rfl rfl
theorem Act.up2 (e : Act) (x : List UInt8) : e.enc.take 2 ++ [.s x] ++ e.enc.drop 3 = ({ e with data := x } : Act).enc := Eq.trans rfl rfl
def Act.ok (e : Act) : Prop := (-9223372036854775808 ≤ e.kind ∧ e.kind < 9223372036854775808) ∧ (-9223372036854775808 ≤ e.n ∧ e.n < 9223372036854775808) ∧ e.data.length ≤ 9223372036854775807
def Act.ty : List Ty := [.i .i64, .i .i64, .s]
theorem Act.eqs (a b : Act) : scEqs [0, 0, 2] (a.enc.map L.d) (b.enc.map L.d) = some (decide (a = b)) := by
  cases a; cases b
  simp only [Act.enc, List.map_cons, List.map_nil, scEqs, scEq, if_true, Act.mk.injEq]
  congr 1
  rw [Bool.eq_iff_iff]
  simp only [Bool.and_eq_true, beq_iff_eq, decide_eq_true_eq, and_true]
theorem Act.of (r : List D) (h : wfRow Act.ty r) : ∃ e : Act, r = e.enc ∧ e.ok := by
  simp only [Act.ty, wfRow, wfT] at h
  obtain ⟨_, _, rfl, ⟨x0, rfl, h0, g0⟩, ⟨_, _, rfl, ⟨x1, rfl, h1, g1⟩, ⟨_, _, rfl, ⟨x2, rfl, h2⟩, rfl⟩⟩⟩ := h
  refine ⟨⟨x0, x1, x2⟩, rfl, ?_⟩
  exact ⟨⟨Int.le_trans (by decide) h0, Int.lt_of_le_of_lt g0 (by decide)⟩, ⟨Int.le_trans (by decide) h1, Int.lt_of_le_of_lt g1 (by decide)⟩, h2⟩
def armD (d : Dsk) (n : Int) : Dsk := { d with armed := decide (0 ≤ n), left := if 0 < n then n else 0 }
def limD (d : Dsk) (n : Int) : Dsk := { d with cap := if 0 < n then n else 0 }
theorem arm_spec (d : Dsk) (n : Int) (hn : -9223372036854775808 ≤ n ∧ n < 9223372036854775808) : call 36 [.agg d.l, vi n] [] = some (.agg (armD d n).l, []) := by
  apply enterS s36 rfl
  obtain ⟨fl, cp, ar, lf, dn⟩ := d
  unfold armD
  by_cases c : 0 < n
  · have c2 : 0 ≤ n := by omega
    (simp (disch:=first|decide|omega|(intros;exact Eq.trans rfl rfl)|(simp only[puri];done)) only [wkf, a36, Dsk.l, c, c2, go_sem, seval, dis])
    try simp [trim]
    try omega
  · have c3 : ¬ n > 0 := c
    (simp (disch:=first|decide|omega|(intros;exact Eq.trans rfl rfl)|(simp only[puri];done)) only [wkf, a36, Dsk.l, c, go_sem, seval, dis])
    try simp [trim]
    try omega
theorem lim_spec (d : Dsk) (n : Int) (hn : -9223372036854775808 ≤ n ∧ n < 9223372036854775808) : call 37 [.agg d.l, vi n] [] = some (.agg (limD d n).l, []) := by
  apply enterS s37 rfl
  obtain ⟨fl, cp, ar, lf, dn⟩ := d
  unfold limD
  by_cases c : 0 < n
  · (simp (disch:=first|decide|omega|(intros;exact Eq.trans rfl rfl)|(simp only[puri];done)) only [wkf, a37, Dsk.l, c, go_sem, seval, dis])
    try simp [trim]
    try omega
  · (simp (disch:=first|decide|omega|(intros;exact Eq.trans rfl rfl)|(simp only[puri];done)) only [wkf, a37, Dsk.l, c, go_sem, seval, dis])
    try simp [trim]
    try omega
def doT (s : Sto) (seg : Int) (a : Act) : Sto × Int :=
  if a.kind = 1 then syncT s else if a.kind = 2 then ({ s with disk := armD s.disk a.n }, 0) else if a.kind = 3 then ({ s with disk := limD s.disk a.n }, 0) else appT s seg ⟨s.next + a.n.tmod 3, 7, a.data⟩
theorem tm3 (n : Int) : -2 ≤ n.tmod 3 ∧ n.tmod 3 ≤ 2 := by
  rcases Int.le_total 0 n with h | h
  · rw [Int.tmod_eq_emod_of_nonneg h]; omega
  · have := Int.tmod_eq_emod_of_nonneg (a := -n) (b := 3) (by omega)
    rw [Int.neg_tmod] at this; omega
theorem doT_ok {k u : Nat} {s : Sto} (h : okS k u s) (seg : Int) (a : Act) (ha : a.ok) : okS (k + 2) (u + 1000) (doT s seg a).1 := by
  have h2 := h.up (k' := k + 2) (u' := u + 1000) (by omega) (by omega)
  have hn := ha.2.1
  unfold doT
  split
  · exact (syncT_ok h).up (by omega) (by omega)
  · split
    · refine ⟨⟨h2.dsk.len, h2.dsk.srt, ?_, h2.dsk.cap, h2.dsk.used⟩, h2.len, h2.seg, h2.next, h2.ver, h2.sum⟩
      show 0 ≤ (if 0 < a.n then a.n else 0) ∧ (if 0 < a.n then a.n else 0) < 9223372036854775808
      split <;> omega
    · split
      · refine ⟨⟨h2.dsk.len, h2.dsk.srt, h2.dsk.left, ?_, h2.dsk.used⟩, h2.len, h2.seg, h2.next, h2.ver, h2.sum⟩
        show 0 ≤ (if 0 < a.n then a.n else 0) ∧ (if 0 < a.n then a.n else 0) < 9223372036854775808
        split <;> omega
      · exact appT_ok h seg _
def shortF (l : List Act) : Bool := decide (l.length ≤ 40) && l.all fun a => decide (a.data.length ≤ 100)
theorem short12_spec (l : List Act) (hl : l.length ≤ 9223372036854775807) : call 6 [vl (l.map Act.enc)] [] = some (vb (shortF l), []) := by
  apply enterS s6 rfl
  unfold shortF
  by_cases c : l.length ≤ 40
  · have c2 : ¬ (40 : Int) < l.length := by omega
    rw [decide_eq_true c, Bool.true_and]
    (simp (disch:=first|decide|omega|(intros;exact Eq.trans rfl rfl)|(simp only[puri];done)) only [a6, c2, go_sem, seval, dis])
    obtain ⟨Z, hZ⟩ : ∃ Z : V, Z = vb (l.all fun a => decide (a.data.length ≤ 100)) := ⟨_, rfl⟩
    rw [← hZ]
    refine loop_data (σ := Nat) (fun k => l.length - k) (fun k => k ≤ l.length ∧ (l.all fun a => decide (a.data.length ≤ 100)) = ((l.drop k).all fun a => decide (a.data.length ≤ 100))) (fun k => [vl (l.map Act.enc), vi k])
      (fun k => (Z, [])) (fun _ => by simp only [go_sem, seval]) ?_ 0 ⟨Nat.zero_le _, rfl⟩ _ (by simp [go_sem, seval])
    rintro k ⟨hk, he⟩ R hR
    rw [he] at hZ
    rcases Nat.lt_or_ge k l.length with h | h
    · have g1 : (l.map Act.enc)[k]? = some l[k].enc := by simp [h]
      rw [List.drop_eq_getElem_cons h, List.all_cons] at hZ he
      by_cases c3 : l[k].data.length ≤ 100
      · have c4 : ¬ (100 : Int) < l[k].data.length := by omega
        rw [decide_eq_true c3, Bool.true_and] at he
        (simp (disch:=first|decide|omega|(intros;exact Eq.trans rfl rfl)|(simp only[puri];done)) only [a6_0, g1, h, Act.len, Act.at2, c4, go_sem, seval, dis])
        exact hR (k + 1) (by first | omega | (simp only []; omega)) ⟨by omega, he⟩ _ (by simp [go_sem, seval])
      · have c4 : (100 : Int) < l[k].data.length := by omega
        rw [decide_eq_false c3, Bool.false_and] at hZ
        (simp (disch:=first|decide|omega|(intros;exact Eq.trans rfl rfl)|(simp only[puri];done)) only [a6_0, g1, h, Act.len, Act.at2, c4, go_sem, seval, dis])
        rw [hZ]
    · rw [List.drop_of_length_le h] at hZ
      (simp (disch:=first|decide|omega|(intros;exact Eq.trans rfl rfl)|(simp only[puri];done)) only [a6_0, h, go_sem, seval, dis])
      rw [hZ]; rfl
  · have c2 : (40 : Int) < l.length := by omega
    rw [decide_eq_false c, Bool.false_and]
    (simp (disch:=first|decide|omega|(intros;exact Eq.trans rfl rfl)|(simp only[puri];done)) only [a6, c2, go_sem, seval, dis])
end Go.Proofs.YtijnkmjbfekajaaGreat

namespace Go.Proofs.YtijnkmjbfekajaaGreat
open Go.Vi
theorem createT_ok {k u : Nat} {d : Dsk} (h : okN k u d) (h0 : (createT d).2 = 0) : okS (k + 2) (u + 1000) (createT d).1 ∧ (∀ seg : Int, 0 ≤ seg → Hold 0 seg (createT d).1 []) ∧ (createT d).1.next = 0 ∧ (createT d).1.sure = 0 := by
  have k1 := crt_ok (s := (d, 0)) h (fileN 0)
  unfold createT at h0 ⊢
  simp only [] at h0 ⊢
  have k2 : okN (k + 2) (u + 1000) (if (crtS (fileN 0) (d, 0)).2 = 0 then swapS ⟨1, [0], 0, 0⟩ (crtS (fileN 0) (d, 0)) else crtS (fileN 0) (d, 0)).1 := by
    split
    · exact (swap_okN k1 _).up (by omega) (by omega)
    · exact k1.up (by omega) (by omega)
  have hd : (crtS (fileN 0) (d, 0)).2 = 0 → hasD (if (crtS (fileN 0) (d, 0)).2 = 0 then swapS ⟨1, [0], 0, 0⟩ (crtS (fileN 0) (d, 0)) else crtS (fileN 0) (d, 0)).1.files (fileN 0) [] := fun hc => by
    rw [if_pos hc]; exact swap_keep k1 _ (fileN_n _ _) (fileN_n _ _) (crt_new hc)
  have hc : (if (crtS (fileN 0) (d, 0)).2 = 0 then swapS ⟨1, [0], 0, 0⟩ (crtS (fileN 0) (d, 0)) else crtS (fileN 0) (d, 0)).2 = 0 → (crtS (fileN 0) (d, 0)).2 = 0 := fun hx => by
    by_cases hc : (crtS (fileN 0) (d, 0)).2 = 0
    · exact hc
    · rw [if_neg hc] at hx; exact hx
  generalize (if (crtS (fileN 0) (d, 0)).2 = 0 then swapS ⟨1, [0], 0, 0⟩ (crtS (fileN 0) (d, 0)) else crtS (fileN 0) (d, 0)) = s2 at *
  by_cases c : s2.2 = 0
  · rw [if_pos c]
    have hd := hd (hc c)
    refine ⟨⟨k2, by simp, ?_, by simp, ⟨by simp, by simp only []; omega⟩, by simp⟩, fun seg hs => ⟨[], ⟨0, 0, 0⟩, [], ⟨rfl, ?_, rfl, rfl, by simp⟩, ⟨fun p hp => (by cases hp), by simp only []; omega⟩, rfl⟩, rfl, rfl⟩
    · intro g hg
      simp only [List.mem_singleton] at hg
      subst hg
      simp
      omega
    · intro p hp
      simp only [List.nil_append, List.mem_singleton] at hp
      subst hp
      exact ⟨hd, fun r hr => (by cases hr), fun k hk => (by simp at hk), rfl, rfl⟩
  · rw [if_neg c] at h0; exact absurd h0 c
theorem do_hold {k u : Nat} {seg : Int} {s : Sto} {R : List Rec} (ho : okS k u s) (h : Hold 0 seg s R) (hseg : 1 ≤ seg) (a : Act) :
    s.sure ≤ (doT s seg a).1.sure ∧ (a.kind = 1 → (doT s seg a).2 = 0 → (doT s seg a).1.sure = (doT s seg a).1.next) ∧ ((a.kind = 2 ∨ a.kind = 3) → (doT s seg a).2 = 0) ∧
      ((a.kind ≠ 1 ∧ a.kind ≠ 2 ∧ a.kind ≠ 3 ∧ (doT s seg a).2 = 0) → Hold 0 seg (doT s seg a).1 (R ++ [⟨R.length, 7, a.data⟩])) ∧ (¬ (a.kind ≠ 1 ∧ a.kind ≠ 2 ∧ a.kind ≠ 3 ∧ (doT s seg a).2 = 0) → Hold 0 seg (doT s seg a).1 R) := by
  unfold doT
  by_cases c1 : a.kind = 1
  · rw [if_pos c1]
    exact ⟨sync_mono ho h.sure.2, fun _ h0 => sync_sure h0, by omega, fun h => absurd c1 h.1, fun _ => sync_hold ho h⟩
  · rw [if_neg c1]
    by_cases c2 : a.kind = 2
    · rw [if_pos c2]
      exact ⟨Int.le_refl _, by omega, fun _ => rfl, fun h => absurd c2 h.2.1, fun _ => disk_hold h _ rfl⟩
    · rw [if_neg c2]
      by_cases c3 : a.kind = 3
      · rw [if_pos c3]
        exact ⟨Int.le_refl _, by omega, fun _ => rfl, fun h => absurd c3 h.2.2.1, fun _ => disk_hold h _ rfl⟩
      · rw [if_neg c3]
        obtain ⟨h1, h2⟩ := app_hold ho h hseg ⟨s.next + a.n.tmod 3, 7, a.data⟩
        have hn := h.next
        refine ⟨h1, by omega, by omega, ?_, ?_⟩
        · rintro ⟨_, _, _, h0⟩
          rcases h2 with ⟨h3, _⟩ | ⟨_, h3, _, h4⟩
          · exact absurd h0 h3
          · have e : s.next + a.n.tmod 3 = (R.length : Int) := by simp only [] at h3; omega
            rw [e] at h4 ⊢; exact h4
        · intro h0
          rcases h2 with ⟨_, h3⟩ | ⟨h3, _⟩
          · exact h3
          · exact absurd ⟨c1, c2, c3, h3⟩ h0
def d0 : Dsk := ⟨[], 0, false, 0, false⟩
theorem d0_ok : okN 0 0 d0 := ⟨Nat.le_refl _, List.Pairwise.nil, by decide, by decide, Nat.le_refl _⟩
def abc (i : Nat) : Rec := ⟨i, 0, [UInt8.ofNat (97 + i)]⟩
def stA : Nat → Sto
  | 0 => (createT d0).1
  | i + 1 => (appT (stA i) 100 (abc i)).1
theorem d0_new : (createT d0).2 = 0 := by decide +kernel
theorem stA_1 : (appT (stA 0) 100 (abc 0)).2 = 0 := by decide +kernel
theorem stA_2 : (appT (stA 1) 100 (abc 1)).2 = 0 := by decide +kernel
theorem stA_3 : (appT (stA 2) 100 (abc 2)).2 = 0 := by decide +kernel
theorem stA_ok : ∀ i, i ≤ 3 → okS (10 + 2 * i) (2000 + 1000 * i) (stA i) ∧ Hold 0 100 (stA i) ((List.range i).map abc)
  | 0, _ => by
    obtain ⟨h1, h2, h3, h4⟩ := createT_ok d0_ok d0_new
    exact ⟨h1.up (by omega) (by omega), h2 100 (by decide)⟩
  | i + 1, hi => by
    obtain ⟨h1, h2⟩ := stA_ok i (by omega)
    have h3 := (app_hold h1 h2 (by decide) (abc i)).2
    have h4 : (appT (stA i) 100 (abc i)).2 = 0 := by
      rcases (by omega : i = 0 ∨ i = 1 ∨ i = 2) with rfl | rfl | rfl
      · exact stA_1
      · exact stA_2
      · exact stA_3
    refine ⟨(appT_ok h1 100 (abc i)).up (by omega) (by omega), ?_⟩
    rcases h3 with ⟨h5, _⟩ | ⟨_, _, _, h5⟩
    · exact absurd h4 h5
    · rw [List.range_succ, List.map_append]; exact h5
theorem stA_s : (syncT (stA 3)).2 = 0 := by decide +kernel
theorem from_awake : (fromT (syncT (stA 3)).1 0 [abc 0, abc 1, abc 2] 1 1000 9).length = 2 := by
  obtain ⟨h1, h2⟩ := stA_ok 3 (by decide)
  have h3 := sync_hold h1 h2
  have hf := h3.floor
  have hs := sync_sure stA_s
  have hn := h2.next
  have e : (syncT (stA 3)).1.sure = 3 := by rw [hs, hn]; rfl
  unfold fromT
  rw [hf, e, if_neg (by decide)]
  have z0 := sizeR_le (r := abc 1)
  have z1 := sizeR_le (r := abc 2)
  show (fromF [abc 1, abc 2] 1000 9).length = 2
  simp only [fromF]
  rw [if_neg (by decide), if_neg (by omega), if_neg (by decide), if_neg (by omega)]
  try rfl
set_option maxRecDepth 20000 in
theorem awake12_spec : call 7 [] [] = some (vb true, []) := by
  obtain ⟨h1, h2⟩ := stA_ok 3 (by decide)
  have h3 := sync_hold h1 h2
  have h4 := syncT_ok h1
  have hs := sync_sure stA_s
  have hn := h2.next
  have e : (syncT (stA 3)).1.sure = 3 := by rw [hs, hn]; rfl
  have g0 := new_spec d0 d0_ok (by decide) (by decide)
  have g1 := sync_spec (stA 3) h1 (by decide) (by decide)
  have g2 := read_sto (syncT (stA 3)).1 h4 (by decide) (by decide) 1
  have g3 : readT (syncT (stA 3)).1 1 = .tup [(true, [.d (.i .i64 1), .d (.i .i64 0), .d (.s [98])]), (false, [.d (.i .i64 0)])] := (read_hold h4 h3 1 (by decide)).2.2
  have g4 := from_sto (syncT (stA 3)).1 _ h4 h3 (by decide) (by decide) (by decide) 1 1000 9 (by decide) (by decide)
  have g5 := from_awake
  have g6 : (List.range 3).map abc = [abc 0, abc 1, abc 2] := rfl
  rw [g6] at g4
  rw [g3] at g2
  generalize fromT (syncT (stA 3)).1 0 [abc 0, abc 1, abc 2] 1 1000 9 = FR at *
  have a0 : createT d0 = (stA 0, 0) := by rw [← d0_new]; rfl
  rw [a0] at g0
  have a4 : syncT (stA 3) = ((syncT (stA 3)).1, 0) := by rw [← stA_s]
  rw [a4] at g1
  have ap : ∀ i, i < 3 → call 29 [.agg (stA i).l, vi 100, .agg ((abc i).enc.map .d)] [] = some (stoV (stA (i + 1), 0), []) := by
    intro i hi
    obtain ⟨h5, h6⟩ := stA_ok i (by omega)
    have h8 : (abc i).ok := by
      rcases (by omega : i = 0 ∨ i = 1 ∨ i = 2) with rfl | rfl | rfl <;> exact ⟨by decide, by decide, by decide⟩
    have h7 := append_sto (stA i) h5 (by omega) (by omega) 100 (abc i) h8
    have h4 : appT (stA i) 100 (abc i) = (stA (i + 1), 0) := by
      rcases (by omega : i = 0 ∨ i = 1 ∨ i = 2) with rfl | rfl | rfl
      · rw [← stA_1]; rfl
      · rw [← stA_2]; rfl
      · rw [← stA_3]; rfl
    rw [h4] at h7; exact h7
  generalize (syncT (stA 3)).1 = sx at *
  clear a0 a4 h1 h2 h3 h4 hs hn g3
  have hcell : ∀ s : Sto, s.l = [.d (.l (s.disk.files.map Fil.enc)), .d (.i .i64 s.disk.cap), .d (.b s.disk.armed), .d (.i .i64 s.disk.left), .d (.b s.disk.down), .d (.i .i64 s.ver), .d (.l (s.segs.map Seg.enc)), .d (.i .i64 s.next), .d (.i .i64 s.sure), .d (.i .i64 s.size), .d (.i .u32 s.sum)] := fun _ => rfl
  have hd0 : d0.l = [.d (.l []), .d (.i .i64 0), .d (.b false), .d (.i .i64 0), .d (.b false)] := rfl
  have ap0 := ap 0 (by decide)
  have ap1 := ap 1 (by decide)
  have ap2 := ap 2 (by decide)
  simp only [stoV, hcell, hd0, abc, Rec.enc, List.map_cons, List.map_nil] at g0 g1 g2 g4 ap0 ap1 ap2
  clear ap
  generalize stA = S at *
  have b0 : (((0 : Nat) : Int)) = 0 := rfl
  have b1 : (((1 : Nat) : Int)) = 1 := rfl
  have b2 : (((2 : Nat) : Int)) = 2 := rfl
  have u0 : UInt8.ofNat (97 + 0) = 97 := rfl
  have u1 : UInt8.ofNat (97 + 1) = 98 := rfl
  have u2 : UInt8.ofNat (97 + 2) = 99 := rfl
  simp only [u0, u1, u2, Nat.zero_add, Nat.reduceAdd] at ap0 ap1 ap2
  simp only [b0] at ap0
  simp only [b1] at ap1
  simp only [b2] at ap2
  apply enterS s7 rfl
  (simp (disch:=first|decide|omega|(intros;exact Eq.trans rfl rfl)|(simp only[puri];done)) only [wkf, a7, g0, go_sem, seval, dis])
  refine loop_boxM (m := 0) (σ := Nat) (fun i => 3 - i) (fun i => i ≤ 3) (fun i => [V.one (.p 0 0), vi 0, vi i])
    (fun i => [.cells [.d (.l ((S i).disk.files.map Fil.enc)), .d (.i .i64 (S i).disk.cap), .d (.b (S i).disk.armed), .d (.i .i64 (S i).disk.left), .d (.b (S i).disk.down), .d (.i .i64 (S i).ver), .d (.l ((S i).segs.map Seg.enc)), .d (.i .i64 (S i).next), .d (.i .i64 (S i).sure), .d (.i .i64 (S i).size), .d (.i .u32 (S i).sum)]]) (fun _ => (vb true, [])) ?_ 0 (by decide) _ _ ?_
  rotate_left
  · exact (at_headM (by decide) (by simp only [List.map_cons, List.map_nil, go_sem, seval]; exact rfl) (by rfl) (by rfl) (by rfl))
  intro i hi R hR
  rcases (by omega : i = 0 ∨ i = 1 ∨ i = 2 ∨ i = 3) with rfl | rfl | rfl | rfl
  · (simp (disch:=first|decide|omega|(intros;exact Eq.trans rfl rfl)|(simp only[puri];done)) only [wkf, a7_0, ap0, go_sem, seval, dis, vdr, A.kind, A.xs, optX])
    exact hR 1 (by decide) (by decide) _ _ (at_headM (by decide) (by simp only [List.map_cons, List.map_nil, go_sem, seval]; exact rfl) (by rfl) (by rfl) (by rfl))
  · (simp (disch:=first|decide|omega|(intros;exact Eq.trans rfl rfl)|(simp only[puri];done)) only [wkf, a7_0, ap1, go_sem, seval, dis, vdr, A.kind, A.xs, optX])
    exact hR 2 (by decide) (by decide) _ _ (at_headM (by decide) (by simp only [List.map_cons, List.map_nil, go_sem, seval]; exact rfl) (by rfl) (by rfl) (by rfl))
  · (simp (disch:=first|decide|omega|(intros;exact Eq.trans rfl rfl)|(simp only[puri];done)) only [wkf, a7_0, ap2, go_sem, seval, dis, vdr, A.kind, A.xs, optX])
    exact hR 3 (by decide) (by decide) _ _ (at_headM (by decide) (by simp only [List.map_cons, List.map_nil, go_sem, seval]; exact rfl) (by rfl) (by rfl) (by rfl))
  · have g5' : (FR.map Rec.enc).length = 2 := by simpa using g5
    generalize FR.map Rec.enc = FQ at *
    have eb : (([98] : Txt) == [98]) = true := rfl
    have e3 : (sx.sure == 3) = true := by rw [e]; rfl
    (simp (disch:=first|decide|omega|(intros;exact Eq.trans rfl rfl)|(simp only[puri];done)) only [wkf, a7_0, g1, g2, g4, g5', eq_true e, e3, eb, go_sem, seval, dis, vdr, A.kind, A.xs, optX])
    try simp [trim]
end Go.Proofs.YtijnkmjbfekajaaGreat

namespace Go.Proofs.YtijnkmjbfekajaaGreat
open Go.Vi
theorem rnamed_spec (s : Txt) : call 48 [vs s] [] = some (vb (namedF s), []) := by
  apply enterS s48 rfl
  unfold namedF
  cases s with
  | nil => (simp (disch:=first|decide|omega|(intros;exact Eq.trans rfl rfl)|(simp only[puri];done)) only [a48, go_sem, seval, dis]); try rfl
  | cons a r =>
    have h1 : (1 : Int) ≤ ((a :: r).length : Nat) := by simp; omega
    generalize hq : (a :: r) = q at *
    have h2 : q ≠ [] := by rw [← hq]; simp
    by_cases c : q.length ≤ 32
    · (simp (disch:=first|decide|omega|(intros;exact Eq.trans rfl rfl)|(simp only[puri];done)) only [a48, h1, c, go_sem, seval, dis])
      simp [h2]
    · (simp (disch:=first|decide|omega|(intros;exact Eq.trans rfl rfl)|(simp only[puri];done)) only [a48, h1, c, go_sem, seval, dis])
      simp [h2]
def findI (l : List Fil) (n : Txt) : Int := if hasF l n = true then (posF l n : Nat) else -1
theorem name_at_iff {l : List Fil} (hs : srt l) (n : Txt) (i : Nat) (h : i < l.length) : l[i].name = n ↔ (hasF l n = true ∧ i = posF l n) := by
  constructor
  · rintro rfl
    exact ⟨has_true hs (List.getElem_mem h), (pos_of hs i h).symm⟩
  · rintro ⟨h1, rfl⟩
    obtain ⟨hp, he⟩ := has_at h1
    exact he
theorem rfind_spec (d : Dsk) (hl : d.files.length ≤ 1000000) (hs : srt d.files) (n : Txt) : call 50 [.agg d.l, vs n] [] = some (vi (findI d.files n), []) := by
  apply enterS s50 rfl
  obtain ⟨fl, cp, ar, lf, dn⟩ := d
  simp only at hl hs ⊢
  obtain ⟨Z, hZ⟩ : ∃ Z : V, Z = vi (findI fl n) := ⟨_, rfl⟩
  rw [← hZ]
  (simp (disch:=first|decide|omega|(intros;exact Eq.trans rfl rfl)|(simp only[puri];done)) only [a50, Dsk.l, go_sem, seval, dis])
  refine loop_boxM (m := 0) (σ := Nat) (fun i => fl.length - i) (fun i => i ≤ fl.length ∧ (hasF fl n = true → i ≤ posF fl n)) (fun i => [vs n, V.one (.p 0 0), vi i])
    (fun _ => [.cells [.d (.l (fl.map Fil.enc)), .d (.i .i64 cp), .d (.b ar), .d (.i .i64 lf), .d (.b dn)]]) (fun _ => (Z, [])) ?_ 0 ⟨Nat.zero_le _, fun _ => Nat.zero_le _⟩ _ _ ?_
  rotate_left
  · exact (at_headM (by decide) (by simp only [List.map_cons, List.map_nil, go_sem, seval]; exact rfl) (by rfl) (by rfl) (by rfl))
  rintro i ⟨hi, hp⟩ R hR
  by_cases c : i < fl.length
  · have g1 : (fl.map Fil.enc)[i]? = some fl[i].enc := by simp [c]
    have hk := name_at_iff hs n i c
    by_cases c2 : fl[i].name = n
    · have e : (fl[i].name == n) = true := by rw [c2]; exact beq_self_eq_true _
      obtain ⟨h1, h2⟩ := hk.1 c2
      have hz : findI fl n = i := by unfold findI; rw [if_pos h1, ← h2]
      rw [hz] at hZ
      (simp (disch:=first|decide|omega|(intros;exact Eq.trans rfl rfl)|(simp only[puri];done)) only [a50_0, c, g1, Fil.len, Fil.at0, e, go_sem, seval, dis])
      rw [hZ]
      try simp [trim]
    · have e : (fl[i].name == n) = false := by rw [beq_eq_false_iff_ne]; exact c2
      (simp (disch:=first|decide|omega|(intros;exact Eq.trans rfl rfl)|(simp only[puri];done)) only [a50_0, c, g1, Fil.len, Fil.at0, e, go_sem, seval, dis])
      exact hR (i + 1) (by omega) ⟨by omega, fun h => by
        have := hp h
        rcases Nat.lt_or_ge i (posF fl n) with h3 | h3
        · omega
        · exact absurd (hk.2 ⟨h, by omega⟩) c2⟩ _ _ (at_headM (by decide) (by simp only [List.map_cons, List.map_nil, go_sem, seval]; exact rfl) (by rfl) (by rfl) (by rfl))
  · have hz : findI fl n = -1 := by
      unfold findI
      rw [if_neg]
      intro h
      obtain ⟨h1, _⟩ := has_at h
      have := hp h; omega
    rw [hz] at hZ
    (simp (disch:=first|decide|omega|(intros;exact Eq.trans rfl rfl)|(simp only[puri];done)) only [a50_0, c, go_sem, seval, dis])
    rw [hZ]
    try simp [trim]
theorem rused_spec (d : Dsk) (hl : d.files.length ≤ 1000000) (hu : usedF d.files ≤ 1000000000000) : call 92 [.agg d.l] [] = some (vi (usedF d.files : Nat), []) := by
  apply enterS s92 rfl
  obtain ⟨fl, cp, ar, lf, dn⟩ := d
  simp only at hl hu ⊢
  (simp (disch:=first|decide|omega|(intros;exact Eq.trans rfl rfl)|(simp only[puri];done)) only [a92, Dsk.l, go_sem, seval, dis])
  refine loop_boxM (m := 0) (σ := Nat) (fun i => fl.length - i) (fun i => i ≤ fl.length) (fun i => [V.one (.p 0 0), vi (usedF (fl.take i) : Nat), vi i])
    (fun _ => [.cells [.d (.l (fl.map Fil.enc)), .d (.i .i64 cp), .d (.b ar), .d (.i .i64 lf), .d (.b dn)]]) (fun _ => (vi (usedF fl : Nat), [])) ?_ 0 (Nat.zero_le _) _ _ ?_
  rotate_left
  · exact (at_headM (by decide) (by simp only [List.map_cons, List.map_nil, go_sem, seval]; exact rfl) (by rfl) (by rfl) (by rfl))
  intro i hi R hR
  by_cases c : i < fl.length
  · have g1 : (fl.map Fil.enc)[i]? = some fl[i].enc := by simp [c]
    have hK := hR (i + 1) (by omega) (by omega)
    have e1 : usedF (fl.take (i + 1)) = usedF (fl.take i) + fl[i].data.length := by rw [List.take_succ_eq_append_getElem c, used_app, used_one]
    have h2 := used_take fl (i + 1)
    rw [e1] at hK h2
    have e2 : ((usedF (fl.take i) + fl[i].data.length : Nat) : Int) = (usedF (fl.take i) : Int) + (fl[i].data.length : Int) := by omega
    rw [e2] at hK
    (simp (disch:=first|decide|omega|(intros;exact Eq.trans rfl rfl)|(simp only[puri];done)) only [a92_0, c, g1, Fil.len, Fil.at1, go_sem, seval, dis])
    exact hK _ _ (at_headM (by decide) (by simp only [List.map_cons, List.map_nil, go_sem, seval]; exact rfl) (by rfl) (by rfl) (by rfl))
  · have e : fl.take i = fl := List.take_of_length_le (by omega)
    rw [e]
    (simp (disch:=first|decide|omega|(intros;exact Eq.trans rfl rfl)|(simp only[puri];done)) only [a92_0, c, go_sem, seval, dis])
    try simp [trim]
end Go.Proofs.YtijnkmjbfekajaaGreat

namespace Go.Proofs.YtijnkmjbfekajaaGreat
open Go.Vi
def woF (l : List Fil) (n : Txt) : List Fil := l.filter fun f => decide (f.name ≠ n)
def wiF (l : List Fil) (f : Fil) : List Fil := insF (woF l f.name) (posF (woF l f.name) f.name) f
theorem woF_len (l : List Fil) (n : Txt) : (woF l n).length ≤ l.length := List.length_filter_le _ _
theorem woF_srt {l : List Fil} (hs : srt l) (n : Txt) : srt (woF l n) := List.Pairwise.filter _ hs
theorem without_spec (l : List Fil) (hl : l.length ≤ 1000000) (n : Txt) : call 91 [vl (l.map Fil.enc), vs n] [] = some (vl ((woF l n).map Fil.enc), []) := by
  apply enterS s91 rfl
  obtain ⟨Z, hZ⟩ : ∃ Z : V, Z = vl ((woF l n).map Fil.enc) := ⟨_, rfl⟩
  rw [← hZ]
  (simp (disch:=first|decide|omega|(intros;exact Eq.trans rfl rfl)|(simp only[puri];done)) only [a91, go_sem, seval, dis])
  refine loop_boxM (m := 0) (σ := Nat) (fun i => l.length - i) (fun i => i ≤ l.length) (fun i => [vl (l.map Fil.enc), vs n, V.one (.sl 0 3 0 (woF (l.take i) n).length), vi i])
    (fun i => [.arr 3 ((woF (l.take i) n).map Fil.enc) 0]) (fun _ => (Z, [])) ?_ 0 (Nat.zero_le _) _ _ ?_
  rotate_left
  · exact (at_headM (by decide) (by simp only [List.map_cons, List.map_nil, go_sem, seval]; exact rfl) (by rfl) (by rfl) (by rfl))
  intro i hi R hR
  have hln : ((woF (l.take i) n).map Fil.enc).length = (woF (l.take i) n).length := by simp
  have hle : (woF (l.take i) n).length ≤ 1000000 := Nat.le_trans (woF_len _ _) (by simp; omega)
  by_cases c : i < l.length
  · have g1 : (l.map Fil.enc)[i]? = some l[i].enc := by simp [c]
    have hK := hR (i + 1) (by omega) (by omega)
    by_cases c2 : l[i].name = n
    · have e : (l[i].name == n) = true := by rw [c2]; exact beq_self_eq_true _
      have e1 : woF (l.take (i + 1)) n = woF (l.take i) n := by
        rw [List.take_succ_eq_append_getElem c]; unfold woF; rw [List.filter_append]; simp [c2]
      rw [e1] at hK
      (simp (disch:=first|decide|omega|(intros;exact Eq.trans rfl rfl)|(simp only[puri];done)) only [a91_0, c, g1, Fil.len, Fil.at0, e, go_sem, seval, dis])
      exact hK _ _ (at_headM (by decide) (by simp only [List.map_cons, List.map_nil, go_sem, seval]; exact rfl) (by rfl) (by rfl) (by rfl))
    · have e : (l[i].name == n) = false := by rw [beq_eq_false_iff_ne]; exact c2
      have e1 : woF (l.take (i + 1)) n = woF (l.take i) n ++ [l[i]] := by
        rw [List.take_succ_eq_append_getElem c]; unfold woF; rw [List.filter_append]; simp [c2]
      rw [e1, List.map_append, List.length_append, List.length_singleton] at hK
      generalize (woF (l.take i) n).map Fil.enc = Q at *
      generalize (woF (l.take i) n).length = q at *
      generalize l[i] = f at *
      obtain ⟨fn, fd, fs⟩ := f
      simp only [Fil.enc, List.map_cons, List.map_nil] at g1 e hK
      (simp (disch:=first|decide|omega|(intros;exact Eq.trans rfl rfl)|(simp only[puri];done)) only [a91_0, c, g1, e, hln, go_sem, seval, dis])
      exact hK _ _ (at_headM (by decide) (by simp only [List.map_cons, List.map_nil, go_sem, seval]; exact rfl) (by rfl) (by rfl) (by rfl))
  · have e : l.take i = l := List.take_of_length_le (by omega)
    rw [e] at hln hle ⊢
    have ht : ((woF l n).map Fil.enc).take (woF l n).length = (woF l n).map Fil.enc := List.take_of_length_le (by omega)
    generalize (woF l n).map Fil.enc = Q at *
    generalize (woF l n).length = q at *
    (simp (disch:=first|decide|omega|(intros;exact Eq.trans rfl rfl)|(simp only[puri];done)) only [a91_0, c, hln, ht, go_sem, seval, dis])
    rw [hZ]
    try simp [trim]
set_option maxRecDepth 8000 in
theorem with_spec (l : List Fil) (hl : l.length ≤ 1000000) (hs : srt l) (f : Fil) : call 72 [vl (l.map Fil.enc), .agg (f.enc.map .d)] [] = some (vl ((wiF l f).map Fil.enc), []) := by
  have q1 := without_spec l hl f.name
  have hml := woF_len l f.name
  have hms := woF_srt hs f.name
  apply enterS s72 rfl
  unfold wiF
  generalize woF l f.name = m at *
  have hpi := pos_iff hms f.name
  have hple := pos_le m f.name
  have hin : (insF m (posF m f.name) f).map Fil.enc = (m.map Fil.enc).take (posF m f.name) ++ [f.enc] ++ (m.map Fil.enc).drop (posF m f.name) := by
    rw [← map_ins]; simp
  rw [hin]
  generalize hpp : posF m f.name = pp at *
  obtain ⟨fn, fd, fs⟩ := f
  simp only [Fil.enc, List.map_cons, List.map_nil] at *
  (simp (disch:=first|decide|omega|(intros;exact Eq.trans rfl rfl)|(simp only[puri];done)) only [a72, q1, go_sem, seval, dis])
  refine loop_boxM (m := 0) (σ := Nat) (fun i => pp - i) (fun i => i ≤ pp) (fun i => [vl (m.map Fil.enc), V.one (.p 0 0), vi i])
    (fun _ => [.cells [.d (.s fn), .d (.s fd), .d (.i .i64 fs)]]) (fun _ => (vl ((m.map Fil.enc).take pp ++ [[.s fn, .s fd, .i .i64 fs]] ++ (m.map Fil.enc).drop pp), [])) ?_ 0 (Nat.zero_le _) _ _ ?_
  rotate_left
  · exact (at_headM (by decide) (by simp only [List.map_cons, List.map_nil, go_sem, seval]; exact rfl) (by rfl) (by rfl) (by rfl))
  intro i hi R hR
  have hend : i = pp → ∀ (b : Bool), True := fun _ _ => trivial
  by_cases c : i < m.length
  · have g1 : (m.map Fil.enc)[i]? = some m[i].enc := by simp [c]
    have hb := hpi i c
    by_cases c2 : i < pp
    · have e : Op.bytesLess m[i].name fn = true := hb.2 c2
      (simp (disch:=first|decide|omega|(intros;exact Eq.trans rfl rfl)|(simp only[puri];done)) only [a72_0, c, g1, Fil.len, Fil.at0, e, go_sem, seval, dis])
      exact hR (i + 1) (by omega) (by omega) _ _ (at_headM (by decide) (by simp only [List.map_cons, List.map_nil, go_sem, seval]; exact rfl) (by rfl) (by rfl) (by rfl))
    · have e : Op.bytesLess m[i].name fn = false := by
        cases h : Op.bytesLess m[i].name fn with
        | true => exact absurd (hb.1 h) c2
        | false => rfl
      have hip : i = pp := by omega
      subst hip
      have hb1 := bounds_hi (n := m.length) (k := i) (by omega)
      have hb2 := bounds_lo (n := m.length) (k := i) (by omega)
      have hok : okRows 3 (m.map Fil.enc) = true := okRows_map Fil.len m
      have hok1 : okRows 3 ((m.map Fil.enc).take i) = true := by rw [← List.map_take]; exact okRows_map Fil.len _
      have hok2 : okRows 3 ((m.map Fil.enc).drop i) = true := by rw [← List.map_drop]; exact okRows_map Fil.len _
      have htk : (m.map Fil.enc).take m.length = m.map Fil.enc := List.take_of_length_le (by simp)
      have hmm : (m.map Fil.enc).length = m.length := by simp
      generalize m.map Fil.enc = MQ at *
      obtain ⟨Q1, hQ1⟩ : ∃ Q1, MQ.take i = Q1 := ⟨_, rfl⟩
      obtain ⟨Q2, hQ2⟩ : ∃ Q2, MQ.drop i = Q2 := ⟨_, rfl⟩
      have hq1 : Q1.length ≤ 1000000 := by rw [← hQ1, List.length_take]; omega
      have hq2 : Q2.length ≤ 1000000 := by rw [← hQ2, List.length_drop]; omega
      rw [hQ1] at hok1 ⊢
      rw [hQ2] at hok2 ⊢
      (simp (disch:=first|decide|omega|(intros;exact Eq.trans rfl rfl)|(simp only[puri];done)) only [wkf, a72_0, c, g1, Fil.len, Fil.at0, e, hb1, hb2, hok, hok1, hok2, htk, hmm, hQ1, hQ2, go_sem, seval, dis, vdr, A.kind, A.xs, optX])
      simp [trim, V.refs, L.refs, Box.refs]
      exact List.take_of_length_le (by simp; omega)
  · have hip : i = pp := by omega
    subst hip
    have him : i = m.length := by omega
    have hb1 := bounds_hi (n := m.length) (k := i) (by omega)
    have hb2 := bounds_lo (n := m.length) (k := i) (by omega)
    have hok : okRows 3 (m.map Fil.enc) = true := okRows_map Fil.len m
    have hok1 : okRows 3 ((m.map Fil.enc).take i) = true := by rw [← List.map_take]; exact okRows_map Fil.len _
    have hok2 : okRows 3 ((m.map Fil.enc).drop i) = true := by rw [← List.map_drop]; exact okRows_map Fil.len _
    have htk : (m.map Fil.enc).take m.length = m.map Fil.enc := List.take_of_length_le (by simp)
    have hmm : (m.map Fil.enc).length = m.length := by simp
    generalize m.map Fil.enc = MQ at *
    obtain ⟨Q1, hQ1⟩ : ∃ Q1, MQ.take i = Q1 := ⟨_, rfl⟩
    obtain ⟨Q2, hQ2⟩ : ∃ Q2, MQ.drop i = Q2 := ⟨_, rfl⟩
    have hq1 : Q1.length ≤ 1000000 := by rw [← hQ1, List.length_take]; omega
    have hq2 : Q2.length ≤ 1000000 := by rw [← hQ2, List.length_drop]; omega
    rw [hQ1] at hok1 ⊢
    rw [hQ2] at hok2 ⊢
    (simp (disch:=first|decide|omega|(intros;exact Eq.trans rfl rfl)|(simp only[puri];done)) only [wkf, a72_0, c, hb1, hb2, hok, hok1, hok2, htk, hmm, hQ1, hQ2, go_sem, seval, dis, vdr, A.kind, A.xs, optX])
    simp [trim, V.refs, L.refs, Box.refs]
    exact List.take_of_length_le (by simp; omega)
end Go.Proofs.YtijnkmjbfekajaaGreat

namespace Go.Proofs.YtijnkmjbfekajaaGreat
open Go.Vi
theorem rchange_spec (d : Dsk) (hL : 0 ≤ d.left ∧ d.left < 9223372036854775808) (l : List Fil) (own : Int) : call 71 [.agg d.l, vl (l.map Fil.enc), vi own] [] = some (dskV (chgF d (l, own)), []) := by
  apply enterS s71 rfl
  obtain ⟨fl, cp, ar, lf, dn⟩ := d
  unfold chgF dskV
  simp only at hL ⊢
  cases dn with
  | true =>
    (simp (disch:=first|decide|omega|(intros;exact Eq.trans rfl rfl)|(simp only[puri];done)) only [wkf, a71, Dsk.l, go_sem, seval, dis])
    try simp [trim]
  | false =>
    by_cases c : own = 0
    · subst c
      cases ar with
      | false =>
        (simp (disch:=first|decide|omega|(intros;exact Eq.trans rfl rfl)|(simp only[puri];done)) only [wkf, a71, Dsk.l, go_sem, seval, dis])
        try simp [trim]
      | true =>
        by_cases c2 : lf = 0
        · subst c2
          (simp (disch:=first|decide|omega|(intros;exact Eq.trans rfl rfl)|(simp only[puri];done)) only [wkf, a71, Dsk.l, go_sem, seval, dis])
          try simp [trim]
        · have e : (lf == 0) = false := by simpa using c2
          (simp (disch:=first|decide|omega|(intros;exact Eq.trans rfl rfl)|(simp only[puri];done)) only [wkf, a71, Dsk.l, c2, e, go_sem, seval, dis])
          try simp [trim, c2]
    · (simp (disch:=first|decide|omega|(intros;exact Eq.trans rfl rfl)|(simp only[puri];done)) only [wkf, a71, Dsk.l, c, go_sem, seval, dis])
      try simp [trim, c]
theorem woF_no {l : List Fil} (hs : srt l) {n : Txt} (h : hasF l n = false) : woF l n = l := by
  unfold woF
  rw [List.filter_eq_self]
  intro f hf
  simpa using has_false hs h f hf
theorem woF_yes {l : List Fil} (hs : srt l) {n : Txt} (h : hasF l n = true) : woF l n = delF l (posF l n) := by
  obtain ⟨hp, he⟩ := has_at h
  have hne : ∀ i (hi : i < l.length), i ≠ posF l n → l[i].name ≠ n := fun i hi h1 h2 => h1 ((name_at_iff hs n i hi).1 h2).2
  have e : l = l.take (posF l n) ++ (l[posF l n] :: l.drop (posF l n + 1)) := by rw [← List.drop_eq_getElem_cons hp, List.take_append_drop]
  unfold woF delF
  conv => lhs; rw [e]
  rw [List.filter_append, List.filter_cons_of_neg (by simp [he]), List.filter_eq_self.2, List.filter_eq_self.2]
  · intro f hf
    obtain ⟨i, hi, rfl⟩ := List.getElem_of_mem hf
    rw [List.getElem_drop]
    rw [List.length_drop] at hi
    simpa using hne _ (by omega) (by omega)
  · intro f hf
    obtain ⟨i, hi, rfl⟩ := List.getElem_of_mem hf
    rw [List.getElem_take]
    rw [List.length_take] at hi
    simpa using hne _ (by omega) (by omega)
theorem pos_del {l : List Fil} (hs : srt l) {n : Txt} (h : hasF l n = true) : posF (delF l (posF l n)) n = posF l n := by
  obtain ⟨hp, he⟩ := has_at h
  have h1 : (l.take (posF l n)).countP (fun f => bl f.name n) = posF l n := by
    conv => rhs; rw [← Nat.min_eq_left (Nat.le_of_lt hp), ← List.length_take]
    rw [List.countP_eq_length]
    intro f hf
    obtain ⟨i, hi, rfl⟩ := List.getElem_of_mem hf
    rw [List.getElem_take]
    rw [List.length_take] at hi
    exact (pos_iff hs n i (by omega)).2 (by omega)
  have h2 : (l.drop (posF l n + 1)).countP (fun f => bl f.name n) = 0 := by
    rw [List.countP_eq_zero]
    intro f hf
    obtain ⟨i, hi, rfl⟩ := List.getElem_of_mem hf
    rw [List.getElem_drop]
    rw [List.length_drop] at hi
    intro h3
    have := (pos_iff hs n _ (by omega)).1 h3
    omega
  unfold delF
  show List.countP _ _ = _
  rw [List.countP_append, h1, h2]; rfl
theorem wiF_no {l : List Fil} (hs : srt l) (f : Fil) (h : hasF l f.name = false) : wiF l f = insF l (posF l f.name) f := by unfold wiF; rw [woF_no hs h]
theorem wiF_yes {l : List Fil} (hs : srt l) (f : Fil) (h : hasF l f.name = true) : wiF l f = l.set (posF l f.name) f := by
  unfold wiF
  rw [woF_yes hs h, pos_del hs h]
  obtain ⟨hp, he⟩ := has_at h
  generalize posF l f.name = p at *
  unfold insF delF
  rw [List.set_eq_take_append_cons_drop, if_pos hp]
  have hl : (l.take p).length = p := by simp; omega
  congr 1
  · rw [List.take_append_of_le_length (by omega), List.take_of_length_le (by omega)]
  · congr 1
    rw [List.drop_append_of_le_length (by omega), List.drop_of_length_le (by omega), List.nil_append]
theorem wiF_put {l : List Fil} (hs : srt l) (f : Fil) : wiF l f = putAt l f := by
  unfold putAt
  cases h : hasF l f.name with
  | true => rw [if_pos rfl]; exact wiF_yes hs f h
  | false => rw [if_neg (by simp)]; exact wiF_no hs f h
end Go.Proofs.YtijnkmjbfekajaaGreat

namespace Go.Proofs.YtijnkmjbfekajaaGreat
open Go.Vi
theorem findI_no {l : List Fil} {n : Txt} (h : hasF l n = false) : findI l n = -1 := by unfold findI; rw [h]; rfl
theorem findI_yes {l : List Fil} {n : Txt} (h : hasF l n = true) : findI l n = (posF l n : Nat) := by unfold findI; rw [if_pos h]
theorem rcreate_spec (d : Dsk) (hd : d.ok) (n : Txt) : call 34 [.agg d.l, vs n] [] = some (dskV (chgF d (crtR d.files n)), []) := by
  apply enterS s34 rfl
  have h1 := rnamed_spec n
  have h2 := rfind_spec d hd.len hd.srt n
  have h3 := with_spec d.files hd.len hd.srt ⟨n, [], 0⟩
  have h4 := rchange_spec d hd.left [] 1
  have h5 := rchange_spec d hd.left [] 8
  have h6 := rchange_spec d hd.left (wiF d.files ⟨n, [], 0⟩) 0
  unfold crtR
  cases c1 : namedF n with
  | false =>
    rw [c1] at h1
    rw [if_neg (by simp)]
    generalize chgF d ([], 1) = r at *
    obtain ⟨⟨f2, cp2, ar2, lf2, dn2⟩, e2⟩ := r
    obtain ⟨fl, cp, ar, lf, dn⟩ := d
    simp only [dskV, Dsk.l, List.map_nil] at h4 ⊢
    (simp (disch:=first|decide|omega|(intros;exact Eq.trans rfl rfl)|(simp only[puri];done)) only [wkf, a34, h1, h4, go_sem, seval, dis])
    try simp [trim]
  | true =>
    rw [c1] at h1
    rw [if_pos rfl]
    cases c2 : hasF d.files n with
    | true =>
      rw [if_pos rfl]
      rw [findI_yes c2] at h2
      generalize chgF d ([], 8) = r at *
      obtain ⟨⟨f2, cp2, ar2, lf2, dn2⟩, e2⟩ := r
      obtain ⟨fl, cp, ar, lf, dn⟩ := d
      simp only [dskV, Dsk.l, List.map_nil] at h2 h5 ⊢
      (simp (disch:=first|decide|omega|(intros;exact Eq.trans rfl rfl)|(simp only[puri];done)) only [wkf, a34, h1, h2, h5, go_sem, seval, dis])
      try simp [trim]
    | false =>
      rw [if_neg (by simp)]
      rw [findI_no c2] at h2
      rw [wiF_no hd.srt ⟨n, [], 0⟩ c2] at h3 h6
      simp only [] at h3 h6
      generalize insF d.files (posF d.files n) ⟨n, [], 0⟩ = q at *
      generalize chgF d (q, 0) = r at *
      obtain ⟨⟨f2, cp2, ar2, lf2, dn2⟩, e2⟩ := r
      obtain ⟨fl, cp, ar, lf, dn⟩ := d
      simp only [dskV, Dsk.l, Fil.enc, List.map_cons, List.map_nil] at h2 h3 h6 ⊢
      (simp (disch:=first|decide|omega|(intros;exact Eq.trans rfl rfl)|(simp only[puri];done)) only [wkf, a34, h1, h2, h3, h6, go_sem, seval, dis])
      try simp [trim]
theorem rdelete_spec (d : Dsk) (hd : d.ok) (n : Txt) : call 51 [.agg d.l, vs n] [] = some (dskV (chgF d (delR d.files n)), []) := by
  apply enterS s51 rfl
  have h2 := rfind_spec d hd.len hd.srt n
  have h3 := without_spec d.files hd.len n
  have h4 := rchange_spec d hd.left [] 7
  have h6 := rchange_spec d hd.left (woF d.files n) 0
  unfold delR
  cases c2 : hasF d.files n with
  | false =>
    rw [if_neg (by simp)]
    rw [findI_no c2] at h2
    generalize chgF d ([], 7) = r at *
    obtain ⟨⟨f2, cp2, ar2, lf2, dn2⟩, e2⟩ := r
    obtain ⟨fl, cp, ar, lf, dn⟩ := d
    simp only [dskV, Dsk.l, List.map_nil] at h2 h4 ⊢
    (simp (disch:=first|decide|omega|(intros;exact Eq.trans rfl rfl)|(simp only[puri];done)) only [wkf, a51, h2, h4, go_sem, seval, dis])
    try simp [trim]
  | true =>
    rw [if_pos rfl]
    rw [findI_yes c2] at h2
    rw [woF_yes hd.srt c2] at h3 h6
    generalize delF d.files (posF d.files n) = q at *
    generalize chgF d (q, 0) = r at *
    obtain ⟨⟨f2, cp2, ar2, lf2, dn2⟩, e2⟩ := r
    obtain ⟨fl, cp, ar, lf, dn⟩ := d
    simp only [dskV, Dsk.l] at h2 h3 h6 ⊢
    (simp (disch:=first|decide|omega|(intros;exact Eq.trans rfl rfl)|(simp only[puri];done)) only [wkf, a51, h2, h3, h6, go_sem, seval, dis])
    try simp [trim]
theorem rsync_spec (d : Dsk) (hd : d.ok) (n : Txt) : call 53 [.agg d.l, vs n] [] = some (dskV (chgF d (synR d.files n)), []) := by
  apply enterS s53 rfl
  have h2 := rfind_spec d hd.len hd.srt n
  have h4 := rchange_spec d hd.left [] 7
  unfold synR
  cases c2 : hasF d.files n with
  | false =>
    rw [if_neg (by simp)]
    rw [findI_no c2] at h2
    generalize chgF d ([], 7) = r at *
    obtain ⟨⟨f2, cp2, ar2, lf2, dn2⟩, e2⟩ := r
    obtain ⟨fl, cp, ar, lf, dn⟩ := d
    simp only [dskV, Dsk.l, List.map_nil] at h2 h4 ⊢
    (simp (disch:=first|decide|omega|(intros;exact Eq.trans rfl rfl)|(simp only[puri];done)) only [wkf, a53, h2, h4, go_sem, seval, dis])
    try simp [trim]
  | true =>
    rw [if_pos rfl]
    rw [findI_yes c2] at h2
    obtain ⟨hp, he⟩ := has_at c2
    rw [upd_at hp]
    have g1 : (d.files.map Fil.enc)[posF d.files n]? = some d.files[posF d.files n].enc := by simp [hp]
    have hdl := data_le d.files _ hp
    have hu := hd.used
    have h3 := with_spec d.files hd.len hd.srt { d.files[posF d.files n] with sure := d.files[posF d.files n].data.length }
    have h5 := wiF_yes hd.srt { d.files[posF d.files n] with sure := d.files[posF d.files n].data.length } (by simp only [he]; exact c2)
    rw [h5] at h3
    simp only [he] at h3
    have hK := rchange_spec d hd.left (d.files.set (posF d.files n) { d.files[posF d.files n] with sure := d.files[posF d.files n].data.length }) 0
    have hpl := hd.len
    generalize posF d.files n = p at *
    simp only [he] at hK ⊢
    generalize d.files[p] = f at *
    obtain ⟨fn, fd, fs⟩ := f
    simp only at he h3 hK hdl ⊢
    subst he
    generalize d.files.set p ⟨fn, fd, fd.length⟩ = q at *
    generalize chgF d (q, 0) = r at *
    obtain ⟨⟨f2, cp2, ar2, lf2, dn2⟩, e2⟩ := r
    obtain ⟨fl, cp, ar, lf, dn⟩ := d
    simp only [dskV, Dsk.l, Fil.enc, List.map_cons, List.map_nil] at g1 h2 h3 hK hp hpl ⊢
    (simp (disch:=first|decide|omega|(intros;exact Eq.trans rfl rfl)|(simp only[puri];done)) only [wkf, a53, h2, g1, h3, hK, go_sem, seval, dis])
    try simp [trim]
end Go.Proofs.YtijnkmjbfekajaaGreat

namespace Go.Proofs.YtijnkmjbfekajaaGreat
open Go.Vi
theorem rappend_spec (d : Dsk) (hd : d.ok) (n x : Txt) (hx : x.length ≤ 1000000000000) : call 52 [.agg d.l, vs n, vs x] [] = some (dskV (chgF d (appR d.files d.cap n x)), []) := by
  apply enterS s52 rfl
  have h2 := rfind_spec d hd.len hd.srt n
  have h4 := rchange_spec d hd.left [] 7
  have h9 := rchange_spec d hd.left [] 9
  have hus := rused_spec d hd.len hd.used
  have hul := hd.used
  have hcp := hd.cap
  unfold appR
  cases c2 : hasF d.files n with
  | false =>
    rw [if_neg (by simp)]
    rw [findI_no c2] at h2
    generalize chgF d ([], 7) = r at *
    obtain ⟨⟨f2, cp2, ar2, lf2, dn2⟩, e2⟩ := r
    obtain ⟨fl, cp, ar, lf, dn⟩ := d
    simp only [dskV, Dsk.l, List.map_nil] at h2 h4 ⊢
    (simp (disch:=first|decide|omega|(intros;exact Eq.trans rfl rfl)|(simp only[puri];done)) only [wkf, a52, h2, h4, go_sem, seval, dis])
    try simp [trim]
  | true =>
    rw [if_pos rfl]
    rw [findI_yes c2] at h2
    obtain ⟨hp, he⟩ := has_at c2
    by_cases c : 0 < d.cap ∧ d.cap - (usedF d.files : Nat) < x.length
    · rw [if_pos c]
      obtain ⟨c3, c4⟩ := c
      have c5 : d.cap < (usedF d.files : Nat) + (x.length : Int) := by omega
      generalize chgF d ([], 9) = r at *
      obtain ⟨⟨f2, cp2, ar2, lf2, dn2⟩, e2⟩ := r
      obtain ⟨fl, cp, ar, lf, dn⟩ := d
      have hpl := hd.len
      simp only [dskV, Dsk.l, List.map_nil] at h2 h9 hus hul hcp c3 c4 c5 hp hpl ⊢
      generalize posF fl n = p at *
      (simp (disch:=first|decide|omega|(intros;exact Eq.trans rfl rfl)|(simp only[puri];done)) only [wkf, a52, h2, c3, hus, c5, h9, go_sem, seval, dis])
      try simp [trim]
    · rw [if_neg c, upd_at hp]
      have g1 : (d.files.map Fil.enc)[posF d.files n]? = some d.files[posF d.files n].enc := by simp [hp]
      have hdl := data_le d.files _ hp
      have h3 := with_spec d.files hd.len hd.srt { d.files[posF d.files n] with data := d.files[posF d.files n].data ++ x }
      have h5 := wiF_yes hd.srt { d.files[posF d.files n] with data := d.files[posF d.files n].data ++ x } (by simp only [he]; exact c2)
      rw [h5] at h3
      simp only [he] at h3
      have hK := rchange_spec d hd.left (d.files.set (posF d.files n) { d.files[posF d.files n] with data := d.files[posF d.files n].data ++ x }) 0
      have hpl := hd.len
      generalize posF d.files n = p at *
      simp only [he] at hK ⊢
      generalize d.files[p] = f at *
      obtain ⟨fn, fd, fs⟩ := f
      simp only at he h3 hK hdl ⊢
      subst he
      have hfx : fd.length + x.length ≤ 9223372036854775807 := by omega
      obtain ⟨fx, hfe⟩ : ∃ fx, fd ++ x = fx := ⟨_, rfl⟩
      rw [hfe] at h3 hK ⊢
      generalize d.files.set p ⟨fn, fx, fs⟩ = q at *
      generalize chgF d (q, 0) = r at *
      obtain ⟨⟨f2, cp2, ar2, lf2, dn2⟩, e2⟩ := r
      obtain ⟨fl, cp, ar, lf, dn⟩ := d
      simp only [dskV, Dsk.l, Fil.enc, List.map_cons, List.map_nil] at g1 h2 h3 hK hp hpl hus hul hcp c ⊢
      by_cases c3 : 0 < cp
      · have c5 : ¬ cp < (usedF fl : Nat) + (x.length : Int) := by omega
        (simp (disch:=first|decide|omega|(intros;exact Eq.trans rfl rfl)|(simp only[puri];done)) only [wkf, a52, h2, c3, hus, c5, g1, hfe, h3, hK, go_sem, seval, dis])
        try simp [trim]
      · (simp (disch:=first|decide|omega|(intros;exact Eq.trans rfl rfl)|(simp only[puri];done)) only [wkf, a52, h2, c3, g1, hfe, h3, hK, go_sem, seval, dis])
        try simp [trim]
theorem rrename_spec (d : Dsk) (hd : d.ok) (n t : Txt) : call 54 [.agg d.l, vs n, vs t] [] = some (dskV (chgF d (renR d.files n t)), []) := by
  apply enterS s54 rfl
  have h1 := rnamed_spec t
  have h2 := rfind_spec d hd.len hd.srt n
  have h4 := rchange_spec d hd.left [] 7
  have h9 := rchange_spec d hd.left [] 1
  unfold renR
  cases c2 : hasF d.files n with
  | false =>
    rw [if_neg (by simp)]
    rw [findI_no c2] at h2
    generalize chgF d ([], 7) = r at *
    obtain ⟨⟨f2, cp2, ar2, lf2, dn2⟩, e2⟩ := r
    obtain ⟨fl, cp, ar, lf, dn⟩ := d
    simp only [dskV, Dsk.l, List.map_nil] at h2 h4 ⊢
    (simp (disch:=first|decide|omega|(intros;exact Eq.trans rfl rfl)|(simp only[puri];done)) only [wkf, a54, h2, h4, go_sem, seval, dis])
    try simp [trim]
  | true =>
    rw [if_pos rfl]
    rw [findI_yes c2] at h2
    obtain ⟨hp, he⟩ := has_at c2
    cases c1 : namedF t with
    | false =>
      rw [c1] at h1
      rw [if_neg (by simp)]
      have hpl := hd.len
      generalize chgF d ([], 1) = r at *
      obtain ⟨⟨f2, cp2, ar2, lf2, dn2⟩, e2⟩ := r
      obtain ⟨fl, cp, ar, lf, dn⟩ := d
      simp only [dskV, Dsk.l, List.map_nil] at h2 h9 hp hpl ⊢
      generalize posF fl n = p at *
      (simp (disch:=first|decide|omega|(intros;exact Eq.trans rfl rfl)|(simp only[puri];done)) only [wkf, a54, h2, h1, h9, go_sem, seval, dis])
      try simp [trim]
    | true =>
      rw [c1] at h1
      rw [if_pos rfl]
      have g1 : (d.files.map Fil.enc)[posF d.files n]? = some d.files[posF d.files n].enc := by simp [hp]
      have h3 := without_spec d.files hd.len n
      rw [woF_yes hd.srt c2] at h3
      have hds := srt_del hd.srt (posF d.files n)
      have hdl := del_len _ _ hp
      have hpl := hd.len
      have hna : nameAt d.files (posF d.files n) t = { d.files[posF d.files n] with name := t } := by unfold nameAt; rw [List.getElem?_eq_getElem hp]
      have h5 := with_spec (delF d.files (posF d.files n)) (by omega) hds (nameAt d.files (posF d.files n) t)
      rw [wiF_put hds] at h5
      generalize putAt (delF d.files (posF d.files n)) (nameAt d.files (posF d.files n) t) = q at *
      have hK := rchange_spec d hd.left q 0
      rw [hna] at h5
      generalize delF d.files (posF d.files n) = dq at *
      generalize posF d.files n = p at *
      generalize d.files[p] = f at *
      obtain ⟨fn, fd, fs⟩ := f
      generalize chgF d (q, 0) = r at *
      obtain ⟨⟨f2, cp2, ar2, lf2, dn2⟩, e2⟩ := r
      obtain ⟨fl, cp, ar, lf, dn⟩ := d
      simp only [dskV, Dsk.l, Fil.enc, List.map_cons, List.map_nil] at g1 h2 h3 h5 hK hp hpl ⊢
      (simp (disch:=first|decide|omega|(intros;exact Eq.trans rfl rfl)|(simp only[puri];done)) only [wkf, a54, h2, h1, g1, h3, h5, hK, go_sem, seval, dis])
      try simp [trim]
theorem rread_spec (d : Dsk) (hl : d.files.length ≤ 1000000) (hs : srt d.files) (n : Txt) : call 83 [.agg d.l, vs n] [] = some (.tup [(false, [.d (.s (readF d.files n).1)]), (false, [.d (.i .i64 (readF d.files n).2)])], []) := by
  apply enterS s83 rfl
  have h2 := rfind_spec d hl hs n
  cases c2 : hasF d.files n with
  | false =>
    have hr : readF d.files n = ([], 7) := by
      unfold readF; unfold hasF at c2
      cases hf : d.files[posF d.files n]? with
      | none => rfl
      | some f =>
        rw [hf] at c2
        simp only [] at c2 ⊢
        rw [if_neg (by simpa using c2)]
    rw [findI_no c2] at h2
    rw [hr]
    obtain ⟨fl, cp, ar, lf, dn⟩ := d
    simp only [Dsk.l] at h2 ⊢
    (simp (disch:=first|decide|omega|(intros;exact Eq.trans rfl rfl)|(simp only[puri];done)) only [wkf, a83, h2, go_sem, seval, dis])
    try simp [trim]
  | true =>
    obtain ⟨hp, he⟩ := has_at c2
    have hr : readF d.files n = (d.files[posF d.files n].data, 0) := by
      unfold readF; rw [List.getElem?_eq_getElem hp]; simp [he]
    rw [findI_yes c2] at h2
    rw [hr]
    have g1 : (d.files.map Fil.enc)[posF d.files n]? = some d.files[posF d.files n].enc := by simp [hp]
    generalize posF d.files n = p at *
    generalize d.files[p] = f at *
    obtain ⟨fn, fd, fs⟩ := f
    obtain ⟨fl, cp, ar, lf, dn⟩ := d
    simp only [Dsk.l, Fil.enc] at g1 h2 hp hl ⊢
    (simp (disch:=first|decide|omega|(intros;exact Eq.trans rfl rfl)|(simp only[puri];done)) only [wkf, a83, h2, g1, go_sem, seval, dis])
    try simp [trim]
end Go.Proofs.YtijnkmjbfekajaaGreat

namespace Go.Proofs.YtijnkmjbfekajaaGreat
open Go.Vi
def tailN (n k : Nat) : Txt := (List.range k).map fun j => UInt8.ofNat (digN n (14 - k + j))
theorem tailN_succ (n k : Nat) (h : k < 13) : tailN n (k + 1) = UInt8.ofNat (digN n (13 - k)) :: tailN n k := by
  unfold tailN
  rw [List.range_succ_eq_map, List.map_cons, List.map_map]
  have e : 14 - (k + 1) + 0 = 13 - k := by omega
  rw [e]
  congr 1
  apply List.map_congr_left
  intro j hj
  simp only [Function.comp]
  have e2 : 14 - (k + 1) + (j + 1) = 14 - k + j := by omega
  rw [Nat.succ_eq_add_one, e2]
theorem digits_spec (n : Nat) (hn : n ≤ 1099511627776) : call 73 [vi n] [] = some (vs (tailN n 13), []) := by
  apply enterS s73 rfl
  (simp (disch:=first|decide|omega|(intros;exact Eq.trans rfl rfl)|(simp only[puri];done)) only [a73, go_sem, seval, dis])
  obtain ⟨Z, hZ⟩ : ∃ Z : V, Z = vs (tailN n 13) := ⟨_, rfl⟩
  rw [← hZ]
  refine loop_boxM (m := 0) (σ := Nat) (fun i => 13 - i) (fun i => i ≤ 13) (fun i => [vi (n / 10 ^ i : Nat), vs (tailN n i), vi i])
    (fun _ => []) (fun _ => (Z, [])) ?_ 0 (by decide) _ _ ?_
  rotate_left
  · have e : n / 10 ^ 0 = n := by simp
    rw [e]; exact (at_headM (by decide) (by simp only [List.map_cons, List.map_nil, go_sem, seval]; exact rfl) (by rfl) (by rfl) (by rfl))
  intro i hi R hR
  by_cases c : i < 13
  · have ci : (i : Int) < 13 := by omega
    have hK := hR (i + 1) (by omega) (by omega)
    rw [tailN_succ n i c] at hK
    have hq : n / 10 ^ (i + 1) = n / 10 ^ i / 10 := by rw [Nat.pow_succ, Nat.div_div_eq_div_mul]
    rw [hq] at hK
    have hdg : digN n (13 - i) = 48 + n / 10 ^ i % 10 := by
      unfold digN
      have : 13 - (13 - i) = i := by omega
      rw [this]
    rw [hdg] at hK
    have hqn : n / 10 ^ i ≤ n := Nat.div_le_self _ _
    have hlt : (tailN n i).length = i := by simp [tailN]
    generalize tailN n i = T at *
    generalize n / 10 ^ i = q at *
    have hm : ((q : Nat) : Int).tmod 10 = ((q % 10 : Nat) : Int) := by rw [Int.tmod_eq_emod_of_nonneg (by omega)]; omega
    have hd : ((q : Nat) : Int).tdiv 10 = ((q / 10 : Nat) : Int) := by rw [Int.tdiv_eq_ediv_of_nonneg (by omega)]; omega
    have hw : IntKind.u8.wrap (48 + ((q % 10 : Nat) : Int)) = ((48 + q % 10 : Nat) : Int) := by rw [wrap_u8 (by omega)]; omega
    (simp (disch:=first|decide|omega|(intros;exact Eq.trans rfl rfl)|(simp only[puri];done)) only [a73_0, ci, hm, hd, hw, bytesOf, hlt, go_sem, seval, dis])
    exact hK _ _ (at_headM (by decide) (by simp only [List.map_cons, List.map_nil, go_sem, seval]; exact rfl) (by rfl) (by rfl) (by rfl))
  · have hie : i = 13 := by omega
    subst hie
    (simp (disch:=first|decide|omega|(intros;exact Eq.trans rfl rfl)|(simp only[puri];done)) only [a73_0, go_sem, seval, dis])
    try rw [hZ]
    try simp [trim]
theorem rseg_spec {n : Int} (h : 0 ≤ n ∧ n ≤ 1099511627776) : call 35 [vi n] [] = some (vs (fileN n), []) := by
  have h1 := digits_spec n.toNat (by omega)
  have e : ((n.toNat : Nat) : Int) = n := by omega
  rw [e] at h1
  have e2 : fileN n = 115 :: tailN n.toNat 13 := by
    unfold fileN nameF tailN
    congr 1
  have hl : (tailN n.toNat 13).length = 13 := by simp [tailN]
  rw [e2]
  generalize tailN n.toNat 13 = T at *
  have c1 : ¬ n < 0 := by omega
  have c2 : ¬ (1099511627776 : Int) < n := by omega
  apply enterS s35 rfl
  (simp (disch:=first|decide|omega|(intros;exact Eq.trans rfl rfl)|(simp only[puri];done)) only [a35, c1, c2, h1, hl, go_sem, seval, dis])
  try simp [trim]
end Go.Proofs.YtijnkmjbfekajaaGreat

namespace Go.Proofs.YtijnkmjbfekajaaGreat
open Go.Vi
set_option maxRecDepth 8000 in
theorem rman_spec (s : Sto) (hl : s.segs.length ≤ 1000000) : call 17 [.agg s.l] [] = some (.agg s.man.l, []) := by
  apply enterS s17 rfl
  obtain ⟨⟨fl, cp, ar, lf, dn⟩, ver, segs, next, sure, size, sum⟩ := s
  simp only at hl
  unfold Sto.man
  (simp (disch:=first|decide|omega|(intros;exact Eq.trans rfl rfl)|(simp only[puri];done)) only [a17, Sto.l, Dsk.l, Man.l, go_sem, seval, dis, vdr, A.kind, A.xs, optX])
  obtain ⟨Z, hZ⟩ : ∃ Z : V, Z = V.agg [.d (.i .i64 ver), .d (.l ((segs.map Seg.base).map eI)), .d (.i .i64 size), .d (.i .u32 sum)] := ⟨_, rfl⟩
  rw [← hZ]
  refine loop_boxM (m := 0) (σ := Option Nat) (fun t => match t with | none => segs.length + 1 | some i => segs.length - i) (fun t => match t with | none => True | some i => i + 1 ≤ segs.length) (fun t => match t with | none => [V.one (.p 0 0), V.one (.p 1 0), V.one (.p 2 0), vi 0] | some i => [V.one (.p 0 0), V.one (.p 1 0), V.one (.p 2 0), vi ((i + 1 : Nat) : Int)])
    (fun t => match t with | none => [.cells [.d (.l (fl.map Fil.enc)), .d (.i .i64 cp), .d (.b ar), .d (.i .i64 lf), .d (.b dn), .d (.i .i64 ver), .d (.l (segs.map Seg.enc)), .d (.i .i64 next), .d (.i .i64 sure), .d (.i .i64 size), .d (.i .u32 sum)], .cells [.d (.i .i64 0), .ns, .d (.i .i64 0), .d (.i .u32 0)], .cells [.d (.i .i64 ver), .ns, .d (.i .i64 size), .d (.i .u32 sum)]] | some i => [.cells [.d (.l (fl.map Fil.enc)), .d (.i .i64 cp), .d (.b ar), .d (.i .i64 lf), .d (.b dn), .d (.i .i64 ver), .d (.l (segs.map Seg.enc)), .d (.i .i64 next), .d (.i .i64 sure), .d (.i .i64 size), .d (.i .u32 sum)], .cells [.d (.i .i64 0), .ns, .d (.i .i64 0), .d (.i .u32 0)], .cells [.d (.i .i64 ver), .sl 3 1 0 (i + 1), .d (.i .i64 size), .d (.i .u32 sum)], .arr 1 ((segs.take (i + 1)).map fun g => eI g.base) 0]) (fun _ => (Z, [])) ?_ none trivial _ _ ?_
  rotate_left
  · exact (at_headM (by decide) (by simp only [List.map_cons, List.map_nil, go_sem, seval]; exact rfl) (by rfl) (by rfl) (by rfl))
  intro t hi R hR
  cases t with
  | none =>
    by_cases c : 0 < segs.length
    · have g1 : (segs.map Seg.enc)[0]? = some segs[0].enc := by simp [c]
      have ci : (0 : Int) < (segs.length : Int) := by omega
      have hK := hR (some 0) (by simp only []; omega) (by simp only []; omega)
      have e1 : ((segs.take (0 + 1)).map fun g => eI g.base) = [eI segs[0].base] := by cases segs with | nil => cases c | cons a r => rfl
      clear hR
      simp only [] at hK ⊢
      rw [e1] at hK
      generalize segs[0] = g at *
      obtain ⟨gb, gn, gz⟩ := g
      simp only [Seg.enc, eI] at g1 hK
      (simp (disch:=first|decide|omega|(intros;exact Eq.trans rfl rfl)|(simp only[puri];done)) only [a17_0, ci, g1, ↓iso_appns_e, anK_ns, go_sem, seval, dis, vdr, A.kind, A.xs, optX])
      exact hK _ _ (at_headM (by decide) (by simp only [List.map_cons, List.map_nil, go_sem, seval]; exact rfl) (by rfl) (by rfl) (by rfl))
    · have e : segs = [] := List.length_eq_zero_iff.1 (by omega)
      subst e
      clear hR
      simp only []
      (simp (disch:=first|decide|omega|(intros;exact Eq.trans rfl rfl)|(simp only[puri];done)) only [a17_0, go_sem, seval, dis, vdr, A.kind, A.xs, optX])
      try rw [hZ]
      try simp [trim]
  | some i =>
    have hln : ((segs.take (i + 1)).map fun g => eI g.base).length = i + 1 := by simp; omega
    by_cases c : i + 1 < segs.length
    · have g1 : (segs.map Seg.enc)[i + 1]? = some segs[i + 1].enc := by simp [c]
      have hK := hR (some (i + 1)) (by simp only []; omega) (by simp only []; omega)
      clear hR
      simp only [] at hK ⊢
      have e1 : ((segs.take (i + 1 + 1)).map fun g => eI g.base) = ((segs.take (i + 1)).map fun g => eI g.base) ++ [eI segs[i + 1].base] := by
        rw [List.take_succ_eq_append_getElem c, List.map_append]; rfl
      rw [e1] at hK
      generalize ((segs.take (i + 1)).map fun g => eI g.base) = Q at *
      generalize segs[i + 1] = g at *
      obtain ⟨gb, gn, gz⟩ := g
      have ci : ((i + 1 : Nat) : Int) < (segs.length : Int) := by omega
      simp only [Seg.enc, eI] at g1 hK
      (simp (disch:=first|decide|omega|(intros;exact Eq.trans rfl rfl)|(simp only[puri];done)) only [a17_0, ci, g1, hln, ↓iso_sto_e, stKo_p, go_sem, seval, dis, vdr, A.kind, A.xs, optX])
      exact hK _ _ (at_headM (by decide) (by simp only [List.map_cons, List.map_nil, go_sem, seval]; exact rfl) (by rfl) (by rfl) (by rfl))
    · have ci : ¬ ((i + 1 : Nat) : Int) < (segs.length : Int) := by omega
      have e : segs.take (i + 1) = segs := List.take_of_length_le (by omega)
      clear hR
      simp only []
      rw [e] at hln ⊢
      have e3 : (segs.map Seg.base).map eI = segs.map fun g => eI g.base := by simp
      rw [e3] at hZ
      generalize (segs.map fun g => eI g.base) = Q at *
      have e4 : Q.take (i + 1) = Q := List.take_of_length_le (by omega)
      (simp (disch:=first|decide|omega|(intros;exact Eq.trans rfl rfl)|(simp only[puri];done)) only [a17_0, ci, hln, e4, go_sem, seval, dis, vdr, A.kind, A.xs, optX])
      rw [hZ]
      try simp [trim, V.refs, L.refs, Box.refs]
end Go.Proofs.YtijnkmjbfekajaaGreat

namespace Go.Proofs.YtijnkmjbfekajaaGreat
open Go.Vi
def prevI (segs : List Int) (i : Nat) : Int := match i with | 0 => -1 | i + 1 => segs.getD i 0
set_option maxRecDepth 8000 in
set_option maxHeartbeats 2000000 in
theorem rmanRight_spec (m : Man) (hl : m.segs.length ≤ 1000000) : call 25 [.agg m.l] [] = some (vb (manB m), []) := by
  obtain ⟨ver, segs, size, sum⟩ := m
  unfold manB Man.l
  simp only at hl ⊢
  apply enterS s25 rfl
  by_cases c1 : 1 ≤ ver
  · by_cases c2 : ver ≤ 1099511627776
    · by_cases c3 : 1 ≤ segs.length
      · by_cases c4 : segs.length ≤ 64
        · rw [decide_eq_true ⟨c1, c2, c3, c4⟩, Bool.true_and]
          obtain ⟨Z, hZ⟩ : ∃ Z : V × Hp, Z = (vb (incB (-1) segs && (if segs.head? = some 0 then decide (size = 0 ∧ sum = 0) else decide (0 < size ∧ size ≤ 65536))), []) := ⟨_, rfl⟩
          rw [← hZ]
          have d1 : ¬ ver < 1 := by omega
          have d2 : ¬ (1099511627776 : Int) < ver := by omega
          have d3 : ¬ (segs.length : Int) < 1 := by omega
          have d4 : ¬ (64 : Int) < segs.length := by omega
          (simp (disch:=first|decide|omega|(intros;exact Eq.trans rfl rfl)|(simp only[puri];done)) only [a25, d1, d2, d3, d4, go_sem, seval, dis])
          refine loop_boxM (m := 0) (σ := Nat) (fun i => segs.length - i) (fun i => i ≤ segs.length ∧ incB (-1) segs = incB (prevI segs i) (segs.drop i) ∧ (0 < i → 0 ≤ prevI segs i)) (fun i => [V.one (.p 0 0), vi i])
            (fun _ => [.cells [.d (.i .i64 ver), .d (.l (segs.map eI)), .d (.i .i64 size), .d (.i .u32 sum)]]) (fun _ => Z) ?_ 0 ⟨Nat.zero_le _, rfl, by omega⟩ _ _ ?_
          rotate_left
          · exact (at_headM (by decide) (by simp only [List.map_cons, List.map_nil, go_sem, seval]; exact rfl) (by rfl) (by rfl) (by rfl))
          rintro i ⟨hi, hinc, hpv⟩ R hR
          by_cases c5 : i < segs.length
          · have c5i : (i : Int) < (segs.length : Int) := by omega
            have g1 : (segs.map eI)[i]? = some (eI segs[i]) := by simp [c5]
            rw [incB_drop _ c5] at hinc
            have hpn : prevI segs (i + 1) = segs[i] := by simp [prevI, c5]
            by_cases c6 : segs[i] < 0
            · have hd : decide (prevI segs i < segs[i] ∧ segs[i] ≤ 1099511627776) = false := decide_eq_false (by
                rintro ⟨h1, h2⟩
                cases i with
                | zero => simp only [prevI] at h1; omega
                | succ i => have := hpv (by omega); omega)
              rw [hd, Bool.false_and] at hinc
              rw [hinc, Bool.false_and] at hZ
              (simp (disch:=first|decide|omega|(intros;exact Eq.trans rfl rfl)|(simp only[puri];done)) only [a25_0, c5i, g1, eI_len, eI_at, c6, go_sem, seval, dis])
              rw [hZ]
            · by_cases c7 : (1099511627776 : Int) < segs[i]
              · have hd : decide (prevI segs i < segs[i] ∧ segs[i] ≤ 1099511627776) = false := decide_eq_false (by omega)
                rw [hd, Bool.false_and] at hinc
                rw [hinc, Bool.false_and] at hZ
                (simp (disch:=first|decide|omega|(intros;exact Eq.trans rfl rfl)|(simp only[puri];done)) only [a25_0, c5i, g1, eI_len, eI_at, c6, c7, go_sem, seval, dis])
                rw [hZ]
              · cases i with
                | zero =>
                  have hd : decide (prevI segs 0 < segs[0] ∧ segs[0] ≤ 1099511627776) = true := decide_eq_true (by simp only [prevI]; omega)
                  rw [hd, Bool.true_and] at hinc
                  (simp (disch:=first|decide|omega|(intros;exact Eq.trans rfl rfl)|(simp only[puri];done)) only [a25_0, c5i, g1, eI_len, eI_at, c6, c7, go_sem, seval, dis])
                  exact hR (0 + 1) (by omega) ⟨by omega, by rw [hpn]; exact hinc, fun _ => by rw [hpn]; omega⟩ _ _ (at_headM (by decide) (by simp only [List.map_cons, List.map_nil, go_sem, seval]; exact rfl) (by rfl) (by rfl) (by rfl))
                | succ i =>
                  have hpi : prevI segs (i + 1) = segs[i] := by simp [prevI, show i < segs.length by omega]
                  rw [hpi] at hinc
                  have g2 : (segs.map eI)[i]? = some (eI segs[i]) := by simp [show i < segs.length by omega]
                  have hsub : ((i + 1 : Nat) : Int) - 1 = (i : Int) := by omega
                  have c0 : (0 : Int) < ((i + 1 : Nat) : Int) := by omega
                  by_cases c8 : segs[i + 1] ≤ segs[i]
                  · have hd : decide (segs[i] < segs[i + 1] ∧ segs[i + 1] ≤ 1099511627776) = false := decide_eq_false (by omega)
                    rw [hd, Bool.false_and] at hinc
                    rw [hinc, Bool.false_and] at hZ
                    (simp (disch:=first|decide|omega|(intros;exact Eq.trans rfl rfl)|(simp only[puri];done)) only [a25_0, c5i, g1, g2, eI_len, eI_at, c6, c7, c0, hsub, c8, go_sem, seval, dis])
                    rw [hZ]
                  · have hd : decide (segs[i] < segs[i + 1] ∧ segs[i + 1] ≤ 1099511627776) = true := decide_eq_true (by omega)
                    rw [hd, Bool.true_and] at hinc
                    (simp (disch:=first|decide|omega|(intros;exact Eq.trans rfl rfl)|(simp only[puri];done)) only [a25_0, c5i, g1, g2, eI_len, eI_at, c6, c7, c0, hsub, c8, go_sem, seval, dis])
                    exact hR (i + 1 + 1) (by omega) ⟨by omega, by rw [hpn]; exact hinc, fun _ => by rw [hpn]; omega⟩ _ _ (at_headM (by decide) (by simp only [List.map_cons, List.map_nil, go_sem, seval]; exact rfl) (by rfl) (by rfl) (by rfl))
          · rw [List.drop_of_length_le (by omega)] at hinc
            have hinc2 : incB (-1) segs = true := hinc
            rw [hinc2, Bool.true_and] at hZ
            have c5i : ¬ (i : Int) < (segs.length : Int) := by omega
            have g0 : (segs.map eI)[0]? = some (eI segs[0]) := by rw [List.getElem?_map, List.getElem?_eq_getElem c3]; rfl
            have hh : segs.head? = some segs[0] := by rw [List.head?_eq_getElem?]; simp
            rw [hh] at hZ
            by_cases z : segs[0] = 0
            · rw [if_pos (by rw [z])] at hZ
              by_cases z2 : size = 0
              · by_cases z3 : sum = 0
                · (simp (disch:=first|decide|omega|(intros;exact Eq.trans rfl rfl)|(simp only[puri];done)) only [a25_0, c5i, g0, eI_len, eI_at, z, z2, z3, go_sem, seval, dis])
                  rw [hZ]; simp [z2, z3]
                · (simp (disch:=first|decide|omega|(intros;exact Eq.trans rfl rfl)|(simp only[puri];done)) only [a25_0, c5i, g0, eI_len, eI_at, z, z2, z3, go_sem, seval, dis])
                  rw [hZ]; simp [z2, z3]
              · (simp (disch:=first|decide|omega|(intros;exact Eq.trans rfl rfl)|(simp only[puri];done)) only [a25_0, c5i, g0, eI_len, eI_at, z, z2, go_sem, seval, dis])
                rw [hZ]; simp [z2]
            · rw [if_neg (by simpa using z)] at hZ
              by_cases z2 : 1 ≤ size
              · by_cases z3 : size ≤ 65536
                · (simp (disch:=first|decide|omega|(intros;exact Eq.trans rfl rfl)|(simp only[puri];done)) only [a25_0, c5i, g0, eI_len, eI_at, z, z2, z3, go_sem, seval, dis])
                  rw [hZ]; simp [z3]; omega
                · (simp (disch:=first|decide|omega|(intros;exact Eq.trans rfl rfl)|(simp only[puri];done)) only [a25_0, c5i, g0, eI_len, eI_at, z, z2, z3, go_sem, seval, dis])
                  rw [hZ]; simp [z3]
              · (simp (disch:=first|decide|omega|(intros;exact Eq.trans rfl rfl)|(simp only[puri];done)) only [a25_0, c5i, g0, eI_len, eI_at, z, z2, go_sem, seval, dis])
                rw [hZ]; simp; omega
        · rw [decide_eq_false (fun h => c4 h.2.2.2), Bool.false_and]
          have d1 : ¬ ver < 1 := by omega
          have d2 : ¬ (1099511627776 : Int) < ver := by omega
          have d3 : ¬ (segs.length : Int) < 1 := by omega
          have d4 : (64 : Int) < segs.length := by omega
          (simp (disch:=first|decide|omega|(intros;exact Eq.trans rfl rfl)|(simp only[puri];done)) only [a25, d1, d2, d3, d4, go_sem, seval, dis])
          try simp [trim]
      · rw [decide_eq_false (fun h => c3 h.2.2.1), Bool.false_and]
        have d1 : ¬ ver < 1 := by omega
        have d2 : ¬ (1099511627776 : Int) < ver := by omega
        have d3 : (segs.length : Int) < 1 := by omega
        (simp (disch:=first|decide|omega|(intros;exact Eq.trans rfl rfl)|(simp only[puri];done)) only [a25, d1, d2, d3, go_sem, seval, dis])
        try simp [trim]
    · rw [decide_eq_false (fun h => c2 h.2.1), Bool.false_and]
      have d1 : ¬ ver < 1 := by omega
      have d2 : (1099511627776 : Int) < ver := by omega
      (simp (disch:=first|decide|omega|(intros;exact Eq.trans rfl rfl)|(simp only[puri];done)) only [a25, d1, d2, go_sem, seval, dis])
      try simp [trim]
  · rw [decide_eq_false (fun h => c1 h.1), Bool.false_and]
    have d1 : ver < 1 := by omega
    (simp (disch:=first|decide|omega|(intros;exact Eq.trans rfl rfl)|(simp only[puri];done)) only [a25, d1, go_sem, seval, dis])
    try simp [trim]
end Go.Proofs.YtijnkmjbfekajaaGreat

namespace Go.Proofs.YtijnkmjbfekajaaGreat
open Go.Vi
set_option maxRecDepth 8000 in
set_option maxHeartbeats 2000000 in
theorem rmanPut_spec (m : Man) (hm : m.ok) : call 49 [.agg m.l] [] = some (.tup [(false, [.d (.s (manPut m).1)]), (false, [.d (.i .i64 (manPut m).2)])], []) := by
  have hr := rmanRight_spec m hm.len
  unfold manPut
  cases c : manB m with
  | false =>
    rw [c] at hr
    apply enterS s49 rfl
    simp only [Man.l] at hr
    (simp (disch:=first|decide|omega|(intros;exact Eq.trans rfl rfl)|(simp only[puri];done)) only [a49, Man.l, hr, go_sem, seval, dis])
    try simp [trim]
  | true =>
    rw [c] at hr
    have hb := manBody_len c
    obtain ⟨h1, h2, h3, h4⟩ := manB_t c
    have hmem := incB_mem _ _ h3
    have hsum := hm.sum
    have hf : call 90 [.one (.d (.i .u32 m.sum))] [] = some (vs (four (sumM m)), []) := by
      have := refFour_spec (sumM m)
      have e : (((sumM m).toNat : Nat) : Int) = m.sum := by unfold sumM; simp; omega
      rw [e] at this
      exact this
    have hp := refPutFrame_spec (manBody m) (by omega)
    unfold putV at hp
    rw [if_pos ⟨hb.1, by omega⟩] at hp
    have q1 := refPutN (n := m.ver) (by omega) (by omega)
    have q2 := refPutN (n := (m.segs.length : Int)) (by omega) (by omega)
    rw [Int.toNat_natCast] at q2
    have q3 := refPutN (n := m.size) (by omega) (by omega)
    have l1 := (enc9 (n := m.ver.toNat) (by omega)).2
    have l2 := (enc9 (n := m.segs.length) (by omega)).2
    have l3 := (enc9 (n := m.size.toNat) (by omega)).2
    unfold manText
    have hbd : manBody m = ((enc128 m.ver.toNat ++ enc128 m.segs.length) ++ numsE m.segs ++ enc128 m.size.toNat) ++ four (sumM m) := by
      unfold manBody
      simp [numsE, List.append_assoc]
    rw [hbd] at hp hb ⊢
    have h4l := four_len (sumM m)
    generalize four (sumM m) = F4 at *
    obtain ⟨ver, segs, size, sum⟩ := m
    simp only [Man.l] at *
    apply enterS s49 rfl
    obtain ⟨W, hW⟩ : ∃ W : Txt, W = frameF (((enc128 ver.toNat ++ enc128 segs.length) ++ numsE segs ++ enc128 size.toNat) ++ F4) := ⟨_, rfl⟩
    rw [← hW] at hp ⊢
    have l12 : (enc128 ver.toNat).length + (enc128 segs.length).length ≤ 9223372036854775807 := by omega
    (simp (disch:=first|decide|omega|(intros;exact Eq.trans rfl rfl)|(simp only[puri];done)) only [a49, hr, q1, q2, l12, go_sem, seval, dis])
    refine loop_boxM (m := 0) (σ := Nat) (fun i => segs.length - i) (fun i => i ≤ segs.length) (fun i => [V.one (.p 0 0), vs ((enc128 ver.toNat ++ enc128 segs.length) ++ numsE (segs.take i)), vi i])
      (fun _ => [.cells [.d (.i .i64 ver), .d (.l (segs.map eI)), .d (.i .i64 size), .d (.i .u32 sum)]]) (fun _ => (V.tup [(false, [.d (.s W)]), (false, [.d (.i .i64 0)])], [])) ?_ 0 (Nat.zero_le _) _ _ ?_
    rotate_left
    · have e : (enc128 ver.toNat ++ enc128 segs.length) ++ numsE (segs.take 0) = enc128 ver.toNat ++ enc128 segs.length := by simp [numsE]
      rw [e]; exact (at_headM (by decide) (by simp only [List.map_cons, List.map_nil, go_sem, seval]; exact rfl) (by rfl) (by rfl) (by rfl))
    intro i hi R hR
    have hln := numsE_len (segs.take i) (fun n hn => by have := hmem n (List.mem_of_mem_take hn); omega)
    have hti : (segs.take i).length = i := by simp; omega
    rw [hti] at hln
    by_cases c5 : i < segs.length
    · have g1 : (segs.map eI)[i]? = some (eI segs[i]) := by simp [c5]
      have hmi := hmem _ (List.getElem_mem c5)
      have q4 := refPutN (n := segs[i]) (by omega) (by omega)
      have l4 := (enc9 (n := segs[i].toNat) (by omega)).2
      have hR' := hR (i + 1) (by omega) (by omega)
      have e1 : numsE (segs.take (i + 1)) = numsE (segs.take i) ++ enc128 segs[i].toNat := by
        rw [List.take_succ_eq_append_getElem c5, numsE_app]; simp [numsE]
      rw [e1, ← List.append_assoc] at hR'
      obtain ⟨P, hP⟩ : ∃ P : Txt, P = (enc128 ver.toNat ++ enc128 segs.length) ++ numsE (segs.take i) := ⟨_, rfl⟩
      have hPl : P.length + (enc128 segs[i].toNat).length ≤ 9223372036854775807 := by rw [hP, List.length_append, List.length_append]; omega
      rw [← hP] at hR' ⊢
      (simp (disch:=first|decide|omega|(intros;exact Eq.trans rfl rfl)|(simp only[puri];done)) only [a49_0, g1, eI_len, eI_at, q4, hPl, go_sem, seval, dis])
      exact hR' _ _ (at_headM (by decide) (by simp only [List.map_cons, List.map_nil, go_sem, seval]; exact rfl) (by rfl) (by rfl) (by rfl))
    · have hin : i = segs.length := by omega
      subst hin
      rw [List.take_length] at hln ⊢
      obtain ⟨P, hP⟩ : ∃ P : Txt, P = (enc128 ver.toNat ++ enc128 segs.length) ++ numsE segs := ⟨_, rfl⟩
      have hPl : P.length + (enc128 size.toNat).length ≤ 9223372036854775807 := by rw [hP, List.length_append, List.length_append]; omega
      have hPl2 : (P ++ enc128 size.toNat).length + F4.length ≤ 9223372036854775807 := by rw [hP, List.length_append, List.length_append, List.length_append]; omega
      rw [← hP] at hp ⊢
      obtain ⟨P2, hP2⟩ : ∃ P2 : Txt, P2 = P ++ enc128 size.toNat := ⟨_, rfl⟩
      rw [← hP2] at hp hPl2
      (simp (disch:=first|decide|omega|(intros;exact Eq.trans rfl rfl)|(simp only[puri];done)) only [a49_0, q3, hPl, ← hP2, hPl2, hf, hp, go_sem, seval, dis])
      try simp [trim]
end Go.Proofs.YtijnkmjbfekajaaGreat

