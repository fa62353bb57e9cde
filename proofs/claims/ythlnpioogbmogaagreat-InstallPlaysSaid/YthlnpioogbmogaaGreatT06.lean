import Derived.Test.YthlnpioogbmogaaGreatT05
import Derived.Test.YthlnpioogbmogaaGreatT04
import Derived.Test.YthlnpioogbmogaaGreatT03
import Derived.Test.YthlnpioogbmogaaGreatVid
set_option linter.unusedSimpArgs false
set_option linter.unusedVariables false
namespace Go.Proofs.YthlnpioogbmogaaGreat
open Go.Vi
structure Ac where
  kind : Int
  n : Int
  m : Int
  data : List UInt8
  deriving DecidableEq
def Ac.enc (e : Ac) : List D := [.i .i64 e.kind, .i .i64 e.n, .i .i64 e.m, .s e.data]
theorem Ac.len (e : Ac) : e.enc.length = 4 := Eq.trans rfl rfl
theorem Ac.tk (e : Ac) : e.enc.take 4 = e.enc := Eq.trans rfl rfl
theorem Ac.tkL (e : Ac) : (e.enc.map L.d).take 4 = e.enc.map L.d := Eq.trans rfl rfl
theorem Ac.dat (e : Ac) : dataLs (e.enc.map L.d) = some (e.enc.map L.d) := Eq.trans rfl rfl
theorem Ac.rfs (e : Ac) : (e.enc.map L.d).flatMap L.refs = [] := Eq.trans rfl rfl
theorem Ac.rn (e : Ac) (g : Nat → Option Nat) : (e.enc.map L.d).map (L.ren g) = e.enc.map L.d := Eq.trans rfl rfl
theorem Ac.lenL (e : Ac) : (e.enc.map L.d).length = 4 := Eq.trans rfl rfl
theorem Ac.at0 (e : Ac) : e.enc[0]? = some (.i .i64 e.kind) := Eq.trans rfl rfl
theorem Ac.fd0 (e : Ac) : (e.enc.map L.d)[0]? = some (.d (.i .i64 e.kind)) := Eq.trans rfl rfl
theorem Ac.at1 (e : Ac) : (e.enc.drop 1)[0]? = some (.i .i64 e.n) := Eq.trans rfl rfl
theorem Ac.fd1 (e : Ac) : (e.enc.map L.d)[1]? = some (.d (.i .i64 e.n)) := Eq.trans rfl rfl
theorem Ac.at2 (e : Ac) : (e.enc.drop 2)[0]? = some (.i .i64 e.m) := Eq.trans rfl rfl
theorem Ac.fd2 (e : Ac) : (e.enc.map L.d)[2]? = some (.d (.i .i64 e.m)) := Eq.trans rfl rfl
theorem Ac.up1 (e : Ac) (x : Int) : e.enc.take 1 ++ [.i .i64 x] ++ e.enc.drop 2 = ({ e with n := x } : Ac).enc := Eq.trans rfl rfl
theorem Ac.up2 (e : Ac) (x : Int) : e.enc.take 2 ++ [.i .i64 x] ++ e.enc.drop 3 = ({ e with m := x } : Ac).enc := Eq.trans rfl rfl
def Ac.ok (e : Ac) : Prop := (-9223372036854775808 ≤ e.kind ∧ e.kind < 9223372036854775808) ∧ (-9223372036854775808 ≤ e.n ∧ e.n < 9223372036854775808) ∧ (-9223372036854775808 ≤ e.m ∧ e.m < 9223372036854775808) ∧ e.data.length ≤ 9223372036854775807
def Ac.ty : List Ty := [.i .i64, .i .i64, .i .i64, .s]
theorem Ac.eqs (a b : Ac) : scEqs [0, 0, 0, 2] (a.enc.map L.d) (b.enc.map L.d) = some (decide (a = b)) := by
  cases a; cases b
  simp only [Ac.enc, List.map_cons, List.map_nil, scEqs, scEq, if_true, Ac.mk.injEq]
  congr 1
  rw [Bool.eq_iff_iff]
  simp only [Bool.and_eq_true, beq_iff_eq, decide_eq_true_eq, and_true]
theorem Ac.of (r : List D) (h : wfRow Ac.ty r) : ∃ e : Ac, r = e.enc ∧ e.ok := by
  simp only [Ac.ty, wfRow, wfT] at h
  obtain ⟨_, _, rfl, ⟨x0, rfl, h0, g0⟩, ⟨_, _, rfl, ⟨x1, rfl, h1, g1⟩, ⟨_, _, rfl, ⟨x2, rfl, h2, g2⟩, ⟨_, _, rfl, ⟨x3, rfl, h3⟩, rfl⟩⟩⟩⟩ := h
  refine ⟨⟨x0, x1, x2, x3⟩, rfl, ?_⟩
  exact ⟨⟨Int.le_trans (by decide) h0, Int.lt_of_le_of_lt g0 (by decide)⟩, ⟨Int.le_trans (by decide) h1, Int.lt_of_le_of_lt g1 (by decide)⟩, ⟨Int.le_trans (by decide) h2, Int.lt_of_le_of_lt g2 (by decide)⟩, h3⟩
def actT (seg i : Int) (s : Sto) (a : Ac) : Sto :=
  if a.kind = 1 then (syncT s).1 else if a.kind = 2 then (trimT s a.n a.m).1 else if a.kind = 3 then { s with disk := armD s.disk a.n } else if a.kind = 4 then { s with disk := limD s.disk a.n } else (appT s seg ⟨s.next, i, a.data⟩).1
def runA (seg : Int) : Int → List Ac → Sto → Sto × Bool
  | _, [], s => (s, true)
  | i, a :: l, s => if 64 < a.data.length then (s, false) else runA seg (i + 1) l (actT seg i s a)
def playT (seg : Int) (l : List Ac) : Sto × Bool := if 40 < l.length then ((createT d0).1, false) else runA seg 0 l (createT d0).1
structure PI (i : Nat) (s : Sto) : Prop where
  ok : okS (10 + 2 * i) (2000 + 23000 * i) s
  next : s.next ≤ i
  base : ∀ g ∈ s.segs, g.base ≤ s.next
theorem floor_nn {k u : Nat} {s : Sto} (h : okS k u s) : 0 ≤ s.floor := (floor_ok h).1
theorem put_base (t : Sto) (x : Txt) (h : ∀ g ∈ t.segs, g.base ≤ t.next) (h1 : 1 ≤ t.segs.length) : (∀ g ∈ (putT t x).1.segs, g.base ≤ (putT t x).1.next) ∧ (putT t x).1.next ≤ t.next + 1 := by
  by_cases c : (chgF t.disk (appR t.disk.files t.disk.cap (fileN t.last.base) x)).2 ≠ 0
  · have e : putT t x = ({ t with disk := (chgF t.disk (appR t.disk.files t.disk.cap (fileN t.last.base) x)).1 }, (chgF t.disk (appR t.disk.files t.disk.cap (fileN t.last.base) x)).2) := by unfold putT; simp only []; rw [if_pos c]
    rw [e]
    exact ⟨h, by show t.next ≤ t.next + 1; omega⟩
  · have e : putT t x = ({ addSeg t x.length with disk := (chgF t.disk (appR t.disk.files t.disk.cap (fileN t.last.base) x)).1 }, 0) := by unfold putT; simp only []; rw [if_neg c]
    rw [e]
    refine ⟨fun g hg => ?_, Int.le_refl _⟩
    have hg' : g ∈ t.segs.dropLast ++ [⟨t.last.base, t.last.n + 1, t.last.size + x.length⟩] := hg
    show g.base ≤ t.next + 1
    rcases List.mem_append.1 hg' with hg | hg
    · have := h g (List.dropLast_subset _ hg); omega
    · rw [List.mem_singleton.1 hg]
      have := h t.last (last_mem h1)
      show t.last.base ≤ t.next + 1
      omega
theorem roll_base (s : Sto) (h : ∀ g ∈ s.segs, g.base ≤ s.next) : (∀ g ∈ (rollT s).1.segs, g.base ≤ (rollT s).1.next) ∧ (rollT s).1.next = s.next := by
  have hs : (syncT s).1.segs = s.segs := rfl
  have hn : (syncT s).1.next = s.next := rfl
  unfold rollT
  split
  · exact ⟨h, rfl⟩
  · split
    · exact ⟨by rw [hs, hn]; exact h, hn⟩
    · split
      · refine ⟨fun g hg => ?_, rfl⟩
        have hg' : g ∈ s.segs ++ [⟨s.next, 0, 0⟩] := hg
        show g.base ≤ s.next
        rcases List.mem_append.1 hg' with hg | hg
        · exact h g hg
        · rw [List.mem_singleton.1 hg]; exact Int.le_refl _
      · exact ⟨by rw [show ({ (syncT s).1 with disk := (rollD (syncT s).1).1 } : Sto).segs = s.segs from rfl]; exact h, rfl⟩
theorem app_base {k u : Nat} {s : Sto} (ho : okS k u s) (h : ∀ g ∈ s.segs, g.base ≤ s.next) (seg : Int) (r : Rec) : (∀ g ∈ (appT s seg r).1.segs, g.base ≤ (appT s seg r).1.next) ∧ (appT s seg r).1.next ≤ s.next + 1 := by
  have hr := roll_base s h
  have ho2 := rollT_ok ho
  unfold appT
  split
  · exact ⟨h, by show s.next ≤ s.next + 1; omega⟩
  · split
    · exact ⟨h, by show s.next ≤ s.next + 1; omega⟩
    · split
      · split
        · exact ⟨hr.1, by rw [hr.2]; omega⟩
        · have := put_base (rollT s).1 (putF r).1 hr.1 ho2.len.1
          rw [hr.2] at this
          exact this
      · exact put_base s _ h ho.len.1
theorem trim_base {s : Sto} (h : ∀ g ∈ s.segs, g.base ≤ s.next) (keep count : Int) : (∀ g ∈ (trimT s keep count).1.segs, g.base ≤ (trimT s keep count).1.next) ∧ (trimT s keep count).1.next = s.next := by
  unfold trimT
  split
  · exact ⟨h, rfl⟩
  · unfold trimK
    simp only []
    split
    · exact ⟨h, rfl⟩
    · refine ⟨fun g hg => ?_, rfl⟩
      exact h g (List.mem_of_mem_drop hg)
theorem act_PI {i : Nat} {s : Sto} (h : PI i s) (hi : i < 40) (seg : Int) (a : Ac) (ha : a.ok) : PI (i + 1) (actT seg i s a) := by
  have h2 := h.ok.up (k' := 10 + 2 * (i + 1)) (u' := 2000 + 23000 * (i + 1)) (by omega) (by omega)
  have hn := h.next
  unfold actT
  split
  · exact ⟨(syncT_ok h.ok).up (by omega) (by omega), by show s.next ≤ _; omega, h.base⟩
  · split
    · have hb := trim_base h.base a.n a.m
      refine ⟨?_, by rw [hb.2]; omega, hb.1⟩
      unfold trimT
      split
      · exact h2
      · rename_i hne
        have hlt := pickF_lt s.segs a.n a.m hne
        have hfl := floor_nn h.ok
        have := trimK_ok h.ok hlt (by rw [(base_at hlt).2]; have := h.base _ (List.getElem_mem hlt); omega)
        exact this.up (by omega) (by omega)
    · split
      · refine ⟨⟨⟨h2.dsk.len, h2.dsk.srt, ?_, h2.dsk.cap, h2.dsk.used⟩, h2.len, h2.seg, h2.next, h2.ver, h2.sum⟩, by show s.next ≤ _; omega, h.base⟩
        have := ha.2.1
        show 0 ≤ (if 0 < a.n then a.n else 0) ∧ (if 0 < a.n then a.n else 0) < 9223372036854775808
        split <;> omega
      · split
        · refine ⟨⟨⟨h2.dsk.len, h2.dsk.srt, h2.dsk.left, ?_, h2.dsk.used⟩, h2.len, h2.seg, h2.next, h2.ver, h2.sum⟩, by show s.next ≤ _; omega, h.base⟩
          have := ha.2.1
          show 0 ≤ (if 0 < a.n then a.n else 0) ∧ (if 0 < a.n then a.n else 0) < 9223372036854775808
          split <;> omega
        · have hb := app_base h.ok h.base seg ⟨s.next, i, a.data⟩
          exact ⟨(appT_ok h.ok seg _).up (by omega) (by omega), by have := hb.2; omega, hb.1⟩
theorem new_PI : PI 0 (createT d0).1 := by
  obtain ⟨o1, hd1, n1, s1⟩ := createT_ok d0_ok d0_new
  refine ⟨o1.up (by omega) (by omega), by rw [n1]; omega, fun g hg => ?_⟩
  have e : (createT d0).1.segs = [⟨0, 0, 0⟩] := by decide +kernel
  rw [e, List.mem_singleton] at hg
  rw [hg, n1]; exact Int.le_refl _
end Go.Proofs.YthlnpioogbmogaaGreat

namespace Go.Proofs.YthlnpioogbmogaaGreat
open Go.Vi
theorem PI.up {i j : Nat} {s : Sto} (h : PI i s) (hj : i ≤ j) : PI j s := ⟨h.ok.up (by omega) (by omega), by have := h.next; omega, h.base⟩
theorem runA_PI (seg : Int) : ∀ (l : List Ac) (i : Nat) (s : Sto), (∀ a ∈ l, a.ok) → i + l.length ≤ 40 → PI i s → PI 40 (runA seg i l s).1
  | [], i, s, _, h, hp => hp.up (by simp at h; omega)
  | a :: l, i, s, ha, h, hp => by
    simp only [runA]
    split
    · exact hp.up (by simp at h; omega)
    · have := runA_PI seg l (i + 1) (actT seg i s a) (fun b hb => ha b (by simp [hb])) (by simp at h; omega) (act_PI hp (by simp at h; omega) seg a (ha a (by simp)))
      rw [Int.natCast_add, Int.natCast_one] at this
      exact this
theorem play_PI (seg : Int) (l : List Ac) (ha : ∀ a ∈ l, a.ok) : PI 40 (playT seg l).1 := by
  unfold playT
  split
  · exact new_PI.up (by omega)
  · exact runA_PI seg l 0 _ ha (by omega) new_PI
set_option maxRecDepth 20000 in
set_option maxHeartbeats 4000000 in
theorem rplay_spec (seg : Int) (l : List Ac) (hl : l.length ≤ 9223372036854775807) (ha : ∀ a ∈ l, a.ok) : call 6 [vi seg, vl (l.map Ac.enc)] [] = some (.tup [(true, (playT seg l).1.l), (false, [.d (.b (playT seg l).2)])], []) := by
  have q0 := rnew_spec d0 d0_ok (by decide) (by decide)
  have hp0 := new_PI
  have hd0 : d0.l = [.d (.l []), .d (.i .i64 0), .d (.b false), .d (.i .i64 0), .d (.b false)] := rfl
  have hcell : ∀ s : Sto, s.l = [.d (.l (s.disk.files.map Fil.enc)), .d (.i .i64 s.disk.cap), .d (.b s.disk.armed), .d (.i .i64 s.disk.left), .d (.b s.disk.down), .d (.i .i64 s.ver), .d (.l (s.segs.map Seg.enc)), .d (.i .i64 s.next), .d (.i .i64 s.sure), .d (.i .i64 s.size), .d (.i .u32 s.sum)] := fun _ => rfl
  obtain ⟨P, hP⟩ : ∃ P, P = playT seg l := ⟨_, rfl⟩
  rw [← hP]
  unfold playT at hP
  generalize createT d0 = r0 at *
  obtain ⟨st0, e0⟩ := r0
  simp only [stoV, hcell, hd0] at q0 hP hp0 ⊢
  apply enterS s6 rfl
  by_cases c0 : 40 < l.length
  · rw [if_pos c0] at hP
    subst hP
    have hc0 : (40 : Int) < (l.length : Int) := by omega
    (simp (disch:=first|decide|omega|(intros;exact rfl)|(simp only[puri];done)) only [wkf, a6, q0, decide_eq_true hc0, go_sem, seval, dis])
    try simp [trim]
  · rw [if_neg c0] at hP
    have hc0 : ¬ (40 : Int) < (l.length : Int) := by omega
    (simp (disch:=first|decide|omega|(intros;exact rfl)|(simp only[puri];done)) only [wkf, a6, q0, decide_eq_false hc0, go_sem, seval, dis])
    refine loop_boxM (m := 0) (σ := Nat × Sto) (fun t => l.length - t.1) (fun t => t.1 ≤ l.length ∧ PI t.1 t.2 ∧ P = runA seg t.1 (l.drop t.1) t.2) (fun t => [vi seg, vl (l.map Ac.enc), V.one (.p 0 0), V.one (.p 1 0), vi t.1])
      (fun t => [.cells [.ns, .d (.i .i64 0), .d (.b false), .d (.i .i64 0), .d (.b false), .d (.i .i64 0), .ns, .d (.i .i64 0), .d (.i .i64 0), .d (.i .i64 0), .d (.i .u32 0)], .cells [.d (.l (t.2.disk.files.map Fil.enc)), .d (.i .i64 t.2.disk.cap), .d (.b t.2.disk.armed), .d (.i .i64 t.2.disk.left), .d (.b t.2.disk.down), .d (.i .i64 t.2.ver), .d (.l (t.2.segs.map Seg.enc)), .d (.i .i64 t.2.next), .d (.i .i64 t.2.sure), .d (.i .i64 t.2.size), .d (.i .u32 t.2.sum)]]) (fun _ => (V.tup [(true, [.d (.l (P.1.disk.files.map Fil.enc)), .d (.i .i64 P.1.disk.cap), .d (.b P.1.disk.armed), .d (.i .i64 P.1.disk.left), .d (.b P.1.disk.down), .d (.i .i64 P.1.ver), .d (.l (P.1.segs.map Seg.enc)), .d (.i .i64 P.1.next), .d (.i .i64 P.1.sure), .d (.i .i64 P.1.size), .d (.i .u32 P.1.sum)]), (false, [.d (.b P.2)])], [])) ?_ (0, st0) ⟨Nat.zero_le _, hp0, hP⟩ _ _ ?_
    rotate_left
    · exact hdM
    rintro ⟨i, s⟩ ⟨h1, h2, h3⟩ R hR
    simp only at h1 h2 h3 ⊢
    by_cases c1 : i < l.length
    · have hc1 : (i : Int) < (l.length : Int) := by omega
      rw [List.drop_eq_getElem_cons c1, runA] at h3
      have g1 : (l.map Ac.enc)[i]? = some l[i].enc := by rw [List.getElem?_map, List.getElem?_eq_getElem c1]; rfl
      have haa := ha _ (List.getElem_mem c1)
      have hnx := act_PI h2 (by omega) seg l[i] haa
      obtain ⟨a, hae⟩ : ∃ a, a = l[i] := ⟨_, rfl⟩
      rw [← hae] at g1 h3 haa hnx
      have ho := h2.ok
      by_cases c2 : 64 < a.data.length
      · rw [if_pos c2] at h3
        subst h3
        obtain ⟨ak, an, am, ad⟩ := a
        simp only [Ac.enc] at g1 c2
        have hc2 : (64 : Int) < (ad.length : Int) := by omega
        (simp (disch:=first|decide|omega|(intros;exact rfl)|(simp only[puri];done)) only [wkf, a6_0, decide_eq_true hc1, g1, decide_eq_true hc2, go_sem, seval, dis, vdr, A.kind, A.xs, optX])
        try simp [trim]
      · rw [if_neg c2] at h3
        have hR' := hR (i + 1, actT seg i s a) (by simp only []; omega) ⟨by simp only []; omega, hnx, by simp only []; rw [Int.natCast_add, Int.natCast_one]; exact h3⟩
        have hnn := ho.next
        have q1 := rsync_sto s ho (by omega) (by omega)
        have hfl := floor_nn ho
        have q2 := rtrim_spec s ho (by omega) (by omega) a.n a.m (fun g hg => by have := h2.base g hg; have := h2.next; omega)
        have q3 := arm_spec s.disk a.n haa.2.1
        have q4 := lim_spec s.disk a.n haa.2.1
        have q5 := rappend_sto s ho (by omega) (by omega) seg ⟨s.next, i, a.data⟩ ⟨by simp only []; omega, by simp only []; omega, haa.2.2.2⟩
        have hc2 : ¬ (64 : Int) < (a.data.length : Int) := by omega
        unfold actT at hR'
        generalize syncT s = r1 at *
        generalize trimT s a.n a.m = r2 at *
        generalize armD s.disk a.n = r3 at *
        generalize limD s.disk a.n = r4 at *
        generalize appT s seg ⟨s.next, i, a.data⟩ = r5 at *
        obtain ⟨ak, an, am, ad⟩ := a
        obtain ⟨⟨fl, cp, ar, lf, dn⟩, ver, segs, next, sure, size, sum⟩ := s
        simp only [Ac.enc, Dsk.l, stoV, hcell, Rec.enc, List.map_cons, List.map_nil] at g1 hc2 q1 q2 q3 q4 q5 hR'
        by_cases k1 : ak = 1
        · subst k1
          rw [if_pos rfl] at hR'
          (simp (disch:=first|decide|omega|(intros;exact rfl)|(simp only[puri];done)) only [wkf, a6_0, decide_eq_true hc1, g1, decide_eq_false hc2, q1, go_sem, seval, dis, vdr, A.kind, A.xs, optX])
          exact hR' _ _ hdM
        · rw [if_neg k1] at hR'
          by_cases k2 : ak = 2
          · subst k2
            rw [if_pos rfl] at hR'
            (simp (disch:=first|decide|omega|(intros;exact rfl)|(simp only[puri];done)) only [wkf, a6_0, decide_eq_true hc1, g1, decide_eq_false hc2, q2, go_sem, seval, dis, vdr, A.kind, A.xs, optX])
            exact hR' _ _ hdM
          · rw [if_neg k2] at hR'
            by_cases k3 : ak = 3
            · subst k3
              rw [if_pos rfl] at hR'
              (simp (disch:=first|decide|omega|(intros;exact rfl)|(simp only[puri];done)) only [wkf, a6_0, decide_eq_true hc1, g1, decide_eq_false hc2, q3, go_sem, seval, dis, vdr, A.kind, A.xs, optX])
              exact hR' _ _ hdM
            · rw [if_neg k3] at hR'
              by_cases k4 : ak = 4
              · subst k4
                rw [if_pos rfl] at hR'
                (simp (disch:=first|decide|omega|(intros;exact rfl)|(simp only[puri];done)) only [wkf, a6_0, decide_eq_true hc1, g1, decide_eq_false hc2, q4, go_sem, seval, dis, vdr, A.kind, A.xs, optX])
                exact hR' _ _ hdM
              · rw [if_neg k4] at hR'
                (simp (disch:=first|decide|omega|(intros;exact rfl)|(simp only[puri];done)) only [wkf, a6_0, decide_eq_true hc1, g1, decide_eq_false hc2, k1, k2, k3, k4, q5, go_sem, seval, dis, vdr, A.kind, A.xs, optX])
                exact hR' _ _ hdM
    · have hc1 : ¬ (i : Int) < (l.length : Int) := by omega
      rw [List.drop_eq_nil_of_le (by omega), runA] at h3
      subst h3
      (simp (disch:=first|decide|omega|(intros;exact rfl)|(simp only[puri];done)) only [wkf, a6_0, a6, decide_eq_false hc1, go_sem, seval, dis, vdr, A.kind, A.xs, optX])
      try simp [trim]
end Go.Proofs.YthlnpioogbmogaaGreat

namespace Go.Proofs.YthlnpioogbmogaaGreat
open Go.Vi
def backT : List Txt → Dsk → Dsk × Int
  | [], d => (d, 9)
  | n :: l, d => if (chgF d (delR d.files n)).2 ≠ 0 then chgF d (delR d.files n) else backT l (chgF d (delR d.files n)).1
def eS (n : Txt) : List D := [.s n]
set_option maxHeartbeats 2000000 in
theorem back_spec {k u : Nat} (d : Dsk) (hd : okN k u d) (hk : k ≤ 900000) (hu : u ≤ 900000000000) (l : List Txt) (hl : l.length ≤ 1000) : call 74 [.agg d.l, vl (l.map eS)] [] = some (dskV (backT l d), []) := by
  obtain ⟨Z, hZ⟩ : ∃ Z, Z = backT l d := ⟨_, rfl⟩
  rw [← hZ]
  obtain ⟨⟨zfl, zcp, zar, zlf, zdn⟩, ze⟩ := Z
  simp only [dskV, Dsk.l]
  apply enterS s74 rfl
  obtain ⟨dfl, dcp, dar, dlf, ddn⟩ := d
  (simp (disch:=first|decide|omega|(intros;exact rfl)|(simp only[puri];done)) only [wkf, a74, go_sem, seval, dis])
  refine loop_boxM (m := 0) (σ := Nat × Dsk) (fun t => l.length - t.1) (fun t => t.1 ≤ l.length ∧ okN k u t.2 ∧ backT (l.drop t.1) t.2 = (⟨zfl, zcp, zar, zlf, zdn⟩, ze)) (fun t => [V.one (.p 0 0), V.one (.p 1 0), vl (l.map eS), vi l.length, vi t.1])
    (fun t => [.cells [.d (.l (t.2.files.map Fil.enc)), .d (.i .i64 t.2.cap), .d (.b t.2.armed), .d (.i .i64 t.2.left), .d (.b t.2.down)], .cells [.ns, .d (.i .i64 0), .d (.b false), .d (.i .i64 0), .d (.b false)]])
    (fun _ => (V.tup [(true, [.d (.l (zfl.map Fil.enc)), .d (.i .i64 zcp), .d (.b zar), .d (.i .i64 zlf), .d (.b zdn)]), (false, [.d (.i .i64 ze)])], [])) ?_ (0, ⟨dfl, dcp, dar, dlf, ddn⟩) ⟨Nat.zero_le _, hd, hZ.symm⟩ _ _ ?_
  rotate_left
  · exact hdM
  rintro ⟨i, ⟨fl, cp, ar, lf, dn⟩⟩ ⟨h1, h2, h3⟩ R hR
  simp only at h1 h2 h3 ⊢
  by_cases c : i < l.length
  · have hc : (i : Int) < (l.length : Int) := by omega
    rw [List.drop_eq_getElem_cons c, backT] at h3
    have g1 : (l.map eS)[i]? = some [.s l[i]] := by rw [List.getElem?_map, List.getElem?_eq_getElem c]; rfl
    generalize l[i] = n at *
    have g2 := delete_spec ⟨fl, cp, ar, lf, dn⟩ (h2.ok (by omega) (by omega)) n
    have kk := del_okN (s := (⟨fl, cp, ar, lf, dn⟩, 0)) h2 n
    rw [show delS n (⟨fl, cp, ar, lf, dn⟩, 0) = chgF ⟨fl, cp, ar, lf, dn⟩ (delR fl n) from stp_ye _ _] at kk
    simp only at g2 h3
    generalize chgF ⟨fl, cp, ar, lf, dn⟩ (delR fl n) = q at *
    obtain ⟨⟨qfl, qcp, qar, qlf, qdn⟩, qe⟩ := q
    simp only [dskV, Dsk.l] at g2 h3
    by_cases c2 : qe = 0
    · subst c2
      rw [if_neg (by simp)] at h3
      have hR' := hR (i + 1, ⟨qfl, qcp, qar, qlf, qdn⟩) (by simp only []; omega) ⟨by simp only []; omega, kk, h3⟩
      (simp (disch:=first|decide|omega|(intros;exact rfl)|(simp only[puri];done)) only [wkf, a74_0, decide_eq_true hc, g1, g2, go_sem, seval, dis, vdr, A.kind, A.xs, optX])
      exact hR' _ _ hdM
    · rw [if_pos c2] at h3
      cases h3
      (simp (disch:=first|decide|omega|(intros;exact rfl)|(simp only[puri];done)) only [wkf, a74_0, decide_eq_true hc, g1, g2, c2, go_sem, seval, dis, vdr, A.kind, A.xs, optX])
      try simp [trim, c2]
  · have hc : ¬ (i : Int) < (l.length : Int) := by omega
    rw [List.drop_eq_nil_of_le (by omega), backT] at h3
    cases h3
    (simp (disch:=first|decide|omega|(intros;exact rfl)|(simp only[puri];done)) only [wkf, a74_0, a74, decide_eq_false hc, go_sem, seval, dis, vdr, A.kind, A.xs, optX])
    try simp [trim]
end Go.Proofs.YthlnpioogbmogaaGreat

namespace Go.Proofs.YthlnpioogbmogaaGreat
open Go.Vi
def goT : List Txt → Dsk → Dsk × Int
  | [], d => (d, 0)
  | n :: l, d => if (chgF d (delR d.files n)).2 = 0 then goT l (chgF d (delR d.files n)).1 else chgF d (delR d.files n)
theorem remove1_spec (d : Dsk) (hd : d.ok) (n : Txt) : call 83 [.agg d.l, .one (.ip [.s n])] [] = some (dskV (chgF d (delR d.files n)), []) := by
  have h := delete_spec d hd n
  generalize chgF d (delR d.files n) = q at *
  obtain ⟨⟨fl, cp, ar, lf, dn⟩, qe⟩ := q
  obtain ⟨fl0, cp0, ar0, lf0, dn0⟩ := d
  simp only [dskV, Dsk.l] at h ⊢
  apply enterS s83 rfl
  (simp (disch:=first|decide|omega|(intros;exact rfl)|(simp only[puri];done)) only [wkf, a83, h, go_sem, seval, dis])
  try simp [trim]
def rmD (n : Txt) : List D := [.fn 83 [[.s n]], .l []]
set_option maxHeartbeats 2000000 in
theorem run_data {k u : Nat} (d : Dsk) (hd : okN k u d) (hk : k ≤ 900000) (hu : u ≤ 900000000000) (l : List Txt) (hl : l.length ≤ 1000) : call 30 [.agg d.l, vl (l.map rmD)] [] = some (dskV (goT l d), []) := by
  obtain ⟨Z, hZ⟩ : ∃ Z, Z = goT l d := ⟨_, rfl⟩
  rw [← hZ]
  obtain ⟨⟨zfl, zcp, zar, zlf, zdn⟩, ze⟩ := Z
  simp only [dskV, Dsk.l]
  apply enterS s30 rfl
  obtain ⟨dfl, dcp, dar, dlf, ddn⟩ := d
  (simp (disch:=first|decide|omega|(intros;exact rfl)|(simp only[puri];done)) only [wkf, a30, go_sem, seval, dis])
  refine loop_boxM (m := 0) (σ := Nat × Dsk) (fun t => l.length - t.1) (fun t => t.1 ≤ l.length ∧ okN k u t.2 ∧ goT (l.drop t.1) t.2 = (⟨zfl, zcp, zar, zlf, zdn⟩, ze)) (fun t => [V.one (.p 0 0), V.one (.p 1 0), vl (l.map rmD), vi l.length, vi t.1])
    (fun t => [.cells [.d (.l (t.2.files.map Fil.enc)), .d (.i .i64 t.2.cap), .d (.b t.2.armed), .d (.i .i64 t.2.left), .d (.b t.2.down)], .cells [.ns, .d (.i .i64 0), .d (.b false), .d (.i .i64 0), .d (.b false)]])
    (fun _ => (V.tup [(true, [.d (.l (zfl.map Fil.enc)), .d (.i .i64 zcp), .d (.b zar), .d (.i .i64 zlf), .d (.b zdn)]), (false, [.d (.i .i64 ze)])], [])) ?_ (0, ⟨dfl, dcp, dar, dlf, ddn⟩) ⟨Nat.zero_le _, hd, hZ.symm⟩ _ _ ?_
  rotate_left
  · exact hdM
  rintro ⟨i, ⟨fl, cp, ar, lf, dn⟩⟩ ⟨h1, h2, h3⟩ R hR
  simp only at h1 h2 h3 ⊢
  by_cases c : i < l.length
  · have hc : (i : Int) < (l.length : Int) := by omega
    rw [List.drop_eq_getElem_cons c, goT] at h3
    have g1 : (l.map rmD)[i]? = some [.fn 83 [[.s l[i]]], .l []] := by rw [List.getElem?_map, List.getElem?_eq_getElem c]; rfl
    generalize l[i] = n at *
    have g2 := remove1_spec ⟨fl, cp, ar, lf, dn⟩ (h2.ok (by omega) (by omega)) n
    have kk := del_okN (s := (⟨fl, cp, ar, lf, dn⟩, 0)) h2 n
    rw [show delS n (⟨fl, cp, ar, lf, dn⟩, 0) = chgF ⟨fl, cp, ar, lf, dn⟩ (delR fl n) from stp_ye _ _] at kk
    simp only at g2 h3
    generalize chgF ⟨fl, cp, ar, lf, dn⟩ (delR fl n) = q at *
    have hb0 := back_spec q.1 kk hk hu [] (by decide)
    obtain ⟨⟨qfl, qcp, qar, qlf, qdn⟩, qe⟩ := q
    simp only [dskV, Dsk.l, List.map_nil, backT] at g2 h3 hb0
    have g3 : ∀ H : Hp, callIso call 83 [.agg [.d (.l (fl.map Fil.enc)), .d (.i .i64 cp), .d (.b ar), .d (.i .i64 lf), .d (.b dn)], .one (.ip [.s n])] H = some (V.tup [(true, [.d (.l (qfl.map Fil.enc)), .d (.i .i64 qcp), .d (.b qar), .d (.i .i64 qlf), .d (.b qdn)]), (false, [.d (.i .i64 qe)])], H) := fun H => callIso_pure rfl g2 rfl
    by_cases c2 : qe = 0
    · subst c2
      rw [if_pos rfl] at h3
      have hR' := hR (i + 1, ⟨qfl, qcp, qar, qlf, qdn⟩) (by simp only []; omega) ⟨by simp only []; omega, kk, h3⟩
      (simp (disch:=first|decide|omega|(intros;exact rfl)|(simp only[puri];done)) only [wkf, a30_0, decide_eq_true hc, g1, g3, go_sem, seval, dis, vdr, A.kind, A.xs, optX])
      exact hR' _ _ hdM
    · rw [if_neg c2] at h3
      cases h3
      by_cases c9 : ze = 9
      · subst c9
        (simp (disch:=first|decide|omega|(intros;exact rfl)|(simp only[puri];done)) only [wkf, a30_0, decide_eq_true hc, g1, g3, hb0, go_sem, seval, dis, vdr, A.kind, A.xs, optX])
        try simp [trim, c2]
      · (simp (disch:=first|decide|omega|(intros;exact rfl)|(simp only[puri];done)) only [wkf, a30_0, decide_eq_true hc, g1, g3, c2, c9, go_sem, seval, dis, vdr, A.kind, A.xs, optX])
        try simp [trim, c2]
  · have hc : ¬ (i : Int) < (l.length : Int) := by omega
    rw [List.drop_eq_nil_of_le (by omega), goT] at h3
    cases h3
    (simp (disch:=first|decide|omega|(intros;exact rfl)|(simp only[puri];done)) only [wkf, a30_0, a30, decide_eq_false hc, go_sem, seval, dis, vdr, A.kind, A.xs, optX])
    try simp [trim]
theorem remove_spec (n : Txt) : call 41 [vs n] [] = some (.agg [.f 83 [0], .ns], [.cells [.d (.s n)], .cells [.f 83 [0], .ns]]) := by
  apply enterS s41 rfl
  have htr : ∀ H : Hp, trim 0 (.agg [.f 83 [0], .ns]) H = (.agg [.f 83 [0], .ns], H) := fun H => by simp [trim, V.refs, L.refs]
  (simp (disch:=first|decide|omega|(intros;exact rfl)|(simp only[puri];done)) only [wkf, a41, ↓htr, go_sem, seval, dis])
end Go.Proofs.YthlnpioogbmogaaGreat

namespace Go.Proofs.YthlnpioogbmogaaGreat
open Go.Vi
theorem c1_spec (d : Dsk) (hd : d.ok) (n : Txt) : call 31 [.agg d.l, .one (.p 0 0)] [.cells [.d (.s n)]] = some (dskV (chgF d (crtR d.files n)), [.cells [.d (.s n)]]) := by
  have h := create_spec d hd n
  generalize chgF d (crtR d.files n) = q at *
  obtain ⟨⟨fl, cp, ar, lf, dn⟩, qe⟩ := q
  obtain ⟨fl0, cp0, ar0, lf0, dn0⟩ := d
  simp only [dskV, Dsk.l] at h ⊢
  apply enterS s31 rfl
  (simp (disch:=first|decide|omega|(intros;exact rfl)|(simp only[puri];done)) only [wkf, a31, h, go_sem, seval, dis])
  try simp [trim, V.refs, L.refs, Box.refs]
theorem c4_spec (d : Dsk) (hd : d.ok) (n : Txt) : call 37 [.agg d.l, .one (.p 0 0)] [.cells [.d (.s n)]] = some (dskV (chgF d (crtR d.files n)), [.cells [.d (.s n)]]) := by
  have h := create_spec d hd n
  generalize chgF d (crtR d.files n) = q at *
  obtain ⟨⟨fl, cp, ar, lf, dn⟩, qe⟩ := q
  obtain ⟨fl0, cp0, ar0, lf0, dn0⟩ := d
  simp only [dskV, Dsk.l] at h ⊢
  apply enterS s37 rfl
  (simp (disch:=first|decide|omega|(intros;exact rfl)|(simp only[puri];done)) only [wkf, a37, h, go_sem, seval, dis])
  try simp [trim, V.refs, L.refs, Box.refs]
theorem c3_spec (d : Dsk) (hd : d.ok) (n : Txt) : call 35 [.agg d.l, .one (.p 0 0)] [.cells [.d (.s n)]] = some (dskV (chgF d (synR d.files n)), [.cells [.d (.s n)]]) := by
  have h := sync_disk d hd n
  generalize chgF d (synR d.files n) = q at *
  obtain ⟨⟨fl, cp, ar, lf, dn⟩, qe⟩ := q
  obtain ⟨fl0, cp0, ar0, lf0, dn0⟩ := d
  simp only [dskV, Dsk.l] at h ⊢
  apply enterS s35 rfl
  (simp (disch:=first|decide|omega|(intros;exact rfl)|(simp only[puri];done)) only [wkf, a35, h, go_sem, seval, dis])
  try simp [trim, V.refs, L.refs, Box.refs]
theorem c2_spec (d : Dsk) (hd : d.ok) (n x : Txt) (hx : x.length ≤ 1000000000000) : call 33 [.agg d.l, .one (.p 0 0), .one (.p 1 0)] [.cells [.d (.s n)], .cells [.d (.s x)]] = some (dskV (chgF d (appR d.files d.cap n x)), [.cells [.d (.s n)], .cells [.d (.s x)]]) := by
  have h := append_spec d hd n x hx
  generalize chgF d (appR d.files d.cap n x) = q at *
  obtain ⟨⟨fl, cp, ar, lf, dn⟩, qe⟩ := q
  obtain ⟨fl0, cp0, ar0, lf0, dn0⟩ := d
  simp only [dskV, Dsk.l] at h ⊢
  apply enterS s33 rfl
  (simp (disch:=first|decide|omega|(intros;exact rfl)|(simp only[puri];done)) only [wkf, a33, h, go_sem, seval, dis])
  try simp [trim, V.refs, L.refs, Box.refs]
def newX (ver at_ : Int) (x : Txt) : Sto := ⟨⟨[], 0, false, 0, false⟩, ver, [⟨at_, 0, 0⟩], at_, at_, x.length, sumT x⟩
def newL (ver at_ : Int) (x : Txt) (b : Nat) : List L := [.ns, .d (.i .i64 0), .d (.b false), .d (.i .i64 0), .d (.b false), .d (.i .i64 ver), .sl b 3 0 1, .d (.i .i64 at_), .d (.i .i64 at_), .d (.i .i64 x.length), .d (.i .u32 (sumT x))]
theorem newX_ok (ver at_ : Int) (x : Txt) : (newX ver at_ x).man.ok := ⟨by show 1 ≤ 1000000; decide, sumT_lt x⟩
theorem c5_spec {k u : Nat} (d : Dsk) (hd : okN k u d) (hk : k ≤ 900000) (hu : u ≤ 900000000000) (ver at_ : Int) (x : Txt) (fz : Nat) (hfz : fz ≤ 1) : call 38 [.agg d.l, .one (.p 0 0)] [.cells (newL ver at_ x 1), .arr 3 [[.i .i64 at_, .i .i64 0, .i .i64 0]] fz] = some (dskV (swapS (newX ver at_ x).man (d, 0)), [.cells (newL ver at_ x 1), .arr 3 [[.i .i64 at_, .i .i64 0, .i .i64 0]] 1]) := by
  have q1 := man_spec (newX ver at_ x) (by show 1 ≤ 1000000; decide)
  have q2 := pswap_spec d hd hk hu (newX ver at_ x).man (newX_ok ver at_ x)
  generalize swapS (newX ver at_ x).man (d, 0) = q at *
  obtain ⟨⟨fl, cp, ar, lf, dn⟩, qe⟩ := q
  obtain ⟨fl0, cp0, ar0, lf0, dn0⟩ := d
  have hm : max fz 1 = 1 := by omega
  simp only [dskV, Dsk.l, newX, newL, Sto.l, Sto.man, Man.l, Seg.enc, List.map_cons, List.map_nil, List.cons_append, List.nil_append, eI] at q1 q2 ⊢
  apply enterS s38 rfl
  (simp (disch:=first|decide|omega|(intros;exact rfl)|(simp only[puri];done)) only [wkf, a38, ↓iso_callzB_e, czKB_a, splitB, isDN, List.all_cons, List.all_nil, Bool.and_self, cond_true, czR_some, q1, q2, hm, go_sem, seval, dis, vdr, A.kind, A.xs, optX])
  try simp [trim, V.refs, L.refs, Box.refs]
end Go.Proofs.YthlnpioogbmogaaGreat

namespace Go.Proofs.YthlnpioogbmogaaGreat
open Go.Vi
abbrev LR := (Dsk × Int) × Nat × Nat × Nat
def u4 (n g : Txt) (m : Man) (d : Dsk) : LR := if (swapS m (d, 0)).2 = 9 then (backT [g, n] (swapS m (d, 0)).1, 0, 1, 2) else (swapS m (d, 0), 0, 1, 0)
def u3 (n g : Txt) (m : Man) (d : Dsk) : LR := if (chgF d (crtR d.files g)).2 ≠ 0 then (chgF d (crtR d.files g), 0, 0, 0) else u4 n g m (chgF d (crtR d.files g)).1
def u2 (n g : Txt) (m : Man) (d : Dsk) : LR := if (chgF d (synR d.files n)).2 ≠ 0 then (chgF d (synR d.files n), 0, 0, 0) else u3 n g m (chgF d (synR d.files n)).1
def u1 (n g x : Txt) (m : Man) (d : Dsk) : LR := if (chgF d (appR d.files d.cap n x)).2 = 9 then (backT [n] (chgF d (appR d.files d.cap n x)).1, 1, 0, 0) else if (chgF d (appR d.files d.cap n x)).2 ≠ 0 then (chgF d (appR d.files d.cap n x), 0, 0, 0) else u2 n g m (chgF d (appR d.files d.cap n x)).1
def u0 (n g x : Txt) (m : Man) (d : Dsk) : LR := if (chgF d (crtR d.files n)).2 ≠ 0 then (chgF d (crtR d.files n), 0, 0, 0) else u1 n g x m (chgF d (crtR d.files n)).1
def uT (n g x : Txt) (m : Man) : Nat → Dsk → LR
  | 0, d => u0 n g x m d
  | 1, d => u1 n g x m d
  | 2, d => u2 n g m d
  | 3, d => u3 n g m d
  | 4, d => u4 n g m d
  | _, d => ((d, 0), 0, 1, 0)
def HI (n g x : Txt) (ver at_ : Int) (f1 f2 f3 : Nat) : Hp := [.cells [.f 31 [1], .ns, .f 33 [1, 2], .sl 3 1 0 1, .f 35 [1], .ns, .f 37 [4], .ns, .f 38 [5], .sl 7 1 0 2], .cells [.d (.s n)], .cells [.d (.s x)], .arr 1 [[.s n]] f1, .cells [.d (.s g)], .cells [.ns, .d (.i .i64 0), .d (.b false), .d (.i .i64 0), .d (.b false), .d (.i .i64 ver), .sl 6 3 0 1, .d (.i .i64 at_), .d (.i .i64 at_), .d (.i .i64 x.length), .d (.i .u32 (sumT x))], .arr 3 [[.i .i64 at_, .i .i64 0, .i .i64 0]] f2, .arr 1 [[.s g], [.s n]] f3]
set_option maxRecDepth 20000 in
set_option maxHeartbeats 4000000 in
theorem run_first {k u : Nat} (d : Dsk) (hd : okN k u d) (hk : k ≤ 800000) (hu : u ≤ 800000000000) (n g x : Txt) (hx : x.length ≤ 1000) (ver at_ : Int) :
    call 30 [.agg d.l, .one (.sp 0 5)] (HI n g x ver at_ 0 0 0) = some (dskV (u0 n g x (newX ver at_ x).man d).1, HI n g x ver at_ (u0 n g x (newX ver at_ x).man d).2.1 (u0 n g x (newX ver at_ x).man d).2.2.1 (u0 n g x (newX ver at_ x).man d).2.2.2) := by
  obtain ⟨Z, hZ⟩ : ∃ Z, Z = uT n g x (newX ver at_ x).man 0 d := ⟨_, rfl⟩
  have hZ0 : u0 n g x (newX ver at_ x).man d = Z := hZ.symm
  rw [hZ0]
  clear hZ0
  obtain ⟨⟨⟨zfl, zcp, zar, zlf, zdn⟩, ze⟩, F1, F2, F3⟩ := Z
  simp only [dskV, Dsk.l, HI]
  apply enterS s30 rfl
  obtain ⟨dfl, dcp, dar, dlf, ddn⟩ := d
  (simp (disch:=first|decide|omega|(intros;exact rfl)|(simp only[puri];done)) only [wkf, a30, go_sem, seval, dis])
  refine loop_boxM (m := 8) (σ := Nat × Dsk) (fun t => 5 - t.1) (fun t => t.1 ≤ 5 ∧ okN (k + 2 * t.1) (u + 2000 * t.1) t.2 ∧ uT n g x (newX ver at_ x).man t.1 t.2 = ((⟨zfl, zcp, zar, zlf, zdn⟩, ze), F1, F2, F3)) (fun t => [V.one (.p 8 0), V.one (.p 9 0), V.one (.sp 0 5), vi 5, vi t.1])
    (fun t => [.cells [.f 31 [1], .ns, .f 33 [1, 2], .sl 3 1 0 1, .f 35 [1], .ns, .f 37 [4], .ns, .f 38 [5], .sl 7 1 0 2], .cells [.d (.s n)], .cells [.d (.s x)], .arr 1 [[.s n]] 0, .cells [.d (.s g)], .cells [.ns, .d (.i .i64 0), .d (.b false), .d (.i .i64 0), .d (.b false), .d (.i .i64 ver), .sl 6 3 0 1, .d (.i .i64 at_), .d (.i .i64 at_), .d (.i .i64 x.length), .d (.i .u32 (sumT x))], .arr 3 [[.i .i64 at_, .i .i64 0, .i .i64 0]] (if t.1 = 5 then 1 else 0), .arr 1 [[.s g], [.s n]] 0, .cells [.d (.l (t.2.files.map Fil.enc)), .d (.i .i64 t.2.cap), .d (.b t.2.armed), .d (.i .i64 t.2.left), .d (.b t.2.down)], .cells [.ns, .d (.i .i64 0), .d (.b false), .d (.i .i64 0), .d (.b false)]])
    (fun _ => (V.tup [(true, [.d (.l (zfl.map Fil.enc)), .d (.i .i64 zcp), .d (.b zar), .d (.i .i64 zlf), .d (.b zdn)]), (false, [.d (.i .i64 ze)])], ([.cells [.f 31 [1], .ns, .f 33 [1, 2], .sl 3 1 0 1, .f 35 [1], .ns, .f 37 [4], .ns, .f 38 [5], .sl 7 1 0 2], .cells [.d (.s n)], .cells [.d (.s x)], .arr 1 [[.s n]] F1, .cells [.d (.s g)], .cells [.ns, .d (.i .i64 0), .d (.b false), .d (.i .i64 0), .d (.b false), .d (.i .i64 ver), .sl 6 3 0 1, .d (.i .i64 at_), .d (.i .i64 at_), .d (.i .i64 x.length), .d (.i .u32 (sumT x))], .arr 3 [[.i .i64 at_, .i .i64 0, .i .i64 0]] F2, .arr 1 [[.s g], [.s n]] F3] : Hp))) ?_ (0, ⟨dfl, dcp, dar, dlf, ddn⟩) ⟨Nat.zero_le _, hd, hZ.symm⟩ _ _ ?_
  rotate_left
  · exact hdM
  rintro ⟨i, ⟨fl, cp, ar, lf, dn⟩⟩ ⟨h1, h2, h3⟩ R hR
  simp only at h1 h2 h3 ⊢
  have hok := h2.ok (by omega) (by omega)
  rcases (by omega : i = 0 ∨ i = 1 ∨ i = 2 ∨ i = 3 ∨ i = 4 ∨ i = 5) with rfl | rfl | rfl | rfl | rfl | rfl
  · have q1 := c1_spec ⟨fl, cp, ar, lf, dn⟩ hok n
    have kk := crt_ok (s := (⟨fl, cp, ar, lf, dn⟩, 0)) h2 n
    rw [show crtS n (⟨fl, cp, ar, lf, dn⟩, 0) = chgF ⟨fl, cp, ar, lf, dn⟩ (crtR fl n) from stp_ye _ _] at kk
    simp only [uT, u0] at h3
    simp only at q1
    generalize chgF ⟨fl, cp, ar, lf, dn⟩ (crtR fl n) = q at *
    have hb := back_spec q.1 kk (by omega) (by omega) [] (by simp)
    have kq := kk.up (k' := k + 2 * (0 + 1)) (u' := u + 2000 * (0 + 1)) (by omega) (by omega)
    generalize hbt : backT [] q.1 = bt at *
    obtain ⟨⟨qfl, qcp, qar, qlf, qdn⟩, qe⟩ := q
    obtain ⟨⟨bfl, bcp, bar, blf, bdn⟩, be⟩ := bt
    simp only [dskV, Dsk.l, List.map_cons, List.map_nil, eS] at q1 hb h3
    have g1 : callIso call 31 [.agg [.d (.l (fl.map Fil.enc)), .d (.i .i64 cp), .d (.b ar), .d (.i .i64 lf), .d (.b dn)], .one (.p 1 0)] [.cells [.f 31 [1], .ns, .f 33 [1, 2], .sl 3 1 0 1, .f 35 [1], .ns, .f 37 [4], .ns, .f 38 [5], .sl 7 1 0 2], .cells [.d (.s n)], .cells [.d (.s x)], .arr 1 [[.s n]] 0, .cells [.d (.s g)], .cells [.ns, .d (.i .i64 0), .d (.b false), .d (.i .i64 0), .d (.b false), .d (.i .i64 ver), .sl 6 3 0 1, .d (.i .i64 at_), .d (.i .i64 at_), .d (.i .i64 x.length), .d (.i .u32 (sumT x))], .arr 3 [[.i .i64 at_, .i .i64 0, .i .i64 0]] 0, .arr 1 [[.s g], [.s n]] 0, .cells [.d (.l (fl.map Fil.enc)), .d (.i .i64 cp), .d (.b ar), .d (.i .i64 lf), .d (.b dn)], .cells [.ns, .d (.i .i64 0), .d (.b false), .d (.i .i64 0), .d (.b false)], .cells [.f 31 [1], .ns]] = some (V.tup [(true, [.d (.l (qfl.map Fil.enc)), .d (.i .i64 qcp), .d (.b qar), .d (.i .i64 qlf), .d (.b qdn)]), (false, [.d (.i .i64 qe)])], [.cells [.f 31 [1], .ns, .f 33 [1, 2], .sl 3 1 0 1, .f 35 [1], .ns, .f 37 [4], .ns, .f 38 [5], .sl 7 1 0 2], .cells [.d (.s n)], .cells [.d (.s x)], .arr 1 [[.s n]] 0, .cells [.d (.s g)], .cells [.ns, .d (.i .i64 0), .d (.b false), .d (.i .i64 0), .d (.b false), .d (.i .i64 ver), .sl 6 3 0 1, .d (.i .i64 at_), .d (.i .i64 at_), .d (.i .i64 x.length), .d (.i .u32 (sumT x))], .arr 3 [[.i .i64 at_, .i .i64 0, .i .i64 0]] 0, .arr 1 [[.s g], [.s n]] 0, .cells [.d (.l (fl.map Fil.enc)), .d (.i .i64 cp), .d (.b ar), .d (.i .i64 lf), .d (.b dn)], .cells [.ns, .d (.i .i64 0), .d (.b false), .d (.i .i64 0), .d (.b false)], .cells [.f 31 [1], .ns]]) := iso_at (ids := [1]) rfl rfl rfl q1 rfl
    by_cases c2 : qe = 0
    · subst c2
      rw [if_neg (by simp)] at h3
      have hR' := hR (0 + 1, ⟨qfl, qcp, qar, qlf, qdn⟩) (by simp only []; omega) ⟨by simp only []; omega, kq, h3⟩
      (simp (disch:=first|decide|omega|(intros;exact rfl)|(simp only[puri];done)) only [wkf, a30_0, g1, go_sem, seval, dis, vdr, A.kind, A.xs, optX])
      exact hR' _ _ hdM
    · rw [if_pos c2] at h3
      cases h3
      have hbt2 : (⟨⟨bfl, bcp, bar, blf, bdn⟩, be⟩ : Dsk × Int) = (⟨zfl, zcp, zar, zlf, zdn⟩, 9) := hbt.symm
      cases hbt2
      by_cases c9 : ze = 9
      · subst c9
        (simp (disch:=first|decide|omega|(intros;exact rfl)|(simp only[puri];done)) only [wkf, a30_0, g1, hb, go_sem, seval, dis, vdr, A.kind, A.xs, optX])
        try simp [trim, V.refs, L.refs, Box.refs]
      · (simp (disch:=first|decide|omega|(intros;exact rfl)|(simp only[puri];done)) only [wkf, a30_0, g1, c2, c9, go_sem, seval, dis, vdr, A.kind, A.xs, optX])
        try simp [trim, V.refs, L.refs, Box.refs]
  · have q1 := c2_spec ⟨fl, cp, ar, lf, dn⟩ hok n x (by omega)
    have kk := app_ok (s := (⟨fl, cp, ar, lf, dn⟩, 0)) h2 n x
    rw [show appS n x (⟨fl, cp, ar, lf, dn⟩, 0) = chgF ⟨fl, cp, ar, lf, dn⟩ (appR fl cp n x) from stp_ye _ _] at kk
    simp only [uT, u1] at h3
    simp only at q1
    generalize chgF ⟨fl, cp, ar, lf, dn⟩ (appR fl cp n x) = q at *
    have hb := back_spec q.1 kk (by omega) (by omega) [n] (by simp)
    have kq := kk.up (k' := k + 2 * (1 + 1)) (u' := u + 2000 * (1 + 1)) (by omega) (by omega)
    generalize hbt : backT [n] q.1 = bt at *
    obtain ⟨⟨qfl, qcp, qar, qlf, qdn⟩, qe⟩ := q
    obtain ⟨⟨bfl, bcp, bar, blf, bdn⟩, be⟩ := bt
    simp only [dskV, Dsk.l, List.map_cons, List.map_nil, eS] at q1 hb h3
    have g1 : callIso call 33 [.agg [.d (.l (fl.map Fil.enc)), .d (.i .i64 cp), .d (.b ar), .d (.i .i64 lf), .d (.b dn)], .one (.p 1 0), .one (.p 2 0)] [.cells [.f 31 [1], .ns, .f 33 [1, 2], .sl 3 1 0 1, .f 35 [1], .ns, .f 37 [4], .ns, .f 38 [5], .sl 7 1 0 2], .cells [.d (.s n)], .cells [.d (.s x)], .arr 1 [[.s n]] 0, .cells [.d (.s g)], .cells [.ns, .d (.i .i64 0), .d (.b false), .d (.i .i64 0), .d (.b false), .d (.i .i64 ver), .sl 6 3 0 1, .d (.i .i64 at_), .d (.i .i64 at_), .d (.i .i64 x.length), .d (.i .u32 (sumT x))], .arr 3 [[.i .i64 at_, .i .i64 0, .i .i64 0]] 0, .arr 1 [[.s g], [.s n]] 0, .cells [.d (.l (fl.map Fil.enc)), .d (.i .i64 cp), .d (.b ar), .d (.i .i64 lf), .d (.b dn)], .cells [.ns, .d (.i .i64 0), .d (.b false), .d (.i .i64 0), .d (.b false)], .cells [.f 33 [1, 2], .sl 3 1 0 1]] = some (V.tup [(true, [.d (.l (qfl.map Fil.enc)), .d (.i .i64 qcp), .d (.b qar), .d (.i .i64 qlf), .d (.b qdn)]), (false, [.d (.i .i64 qe)])], [.cells [.f 31 [1], .ns, .f 33 [1, 2], .sl 3 1 0 1, .f 35 [1], .ns, .f 37 [4], .ns, .f 38 [5], .sl 7 1 0 2], .cells [.d (.s n)], .cells [.d (.s x)], .arr 1 [[.s n]] 0, .cells [.d (.s g)], .cells [.ns, .d (.i .i64 0), .d (.b false), .d (.i .i64 0), .d (.b false), .d (.i .i64 ver), .sl 6 3 0 1, .d (.i .i64 at_), .d (.i .i64 at_), .d (.i .i64 x.length), .d (.i .u32 (sumT x))], .arr 3 [[.i .i64 at_, .i .i64 0, .i .i64 0]] 0, .arr 1 [[.s g], [.s n]] 0, .cells [.d (.l (fl.map Fil.enc)), .d (.i .i64 cp), .d (.b ar), .d (.i .i64 lf), .d (.b dn)], .cells [.ns, .d (.i .i64 0), .d (.b false), .d (.i .i64 0), .d (.b false)], .cells [.f 33 [1, 2], .sl 3 1 0 1]]) := iso_at (ids := [1, 2]) rfl rfl rfl q1 rfl
    by_cases c2 : qe = 0
    · subst c2
      rw [if_neg (by decide), if_neg (by simp)] at h3
      have hR' := hR (1 + 1, ⟨qfl, qcp, qar, qlf, qdn⟩) (by simp only []; omega) ⟨by simp only []; omega, kq, h3⟩
      (simp (disch:=first|decide|omega|(intros;exact rfl)|(simp only[puri];done)) only [wkf, a30_0, g1, go_sem, seval, dis, vdr, A.kind, A.xs, optX])
      exact hR' _ _ hdM
    · by_cases c9 : qe = 9
      · subst c9
        rw [if_pos rfl] at h3
        cases h3
        (simp (disch:=first|decide|omega|(intros;exact rfl)|(simp only[puri];done)) only [wkf, a30_0, g1, hb, go_sem, seval, dis, vdr, A.kind, A.xs, optX])
        try simp [trim, V.refs, L.refs, Box.refs]
      · rw [if_neg c9, if_pos c2] at h3
        cases h3
        (simp (disch:=first|decide|omega|(intros;exact rfl)|(simp only[puri];done)) only [wkf, a30_0, g1, c2, c9, go_sem, seval, dis, vdr, A.kind, A.xs, optX])
        try simp [trim, V.refs, L.refs, Box.refs]
  · have q1 := c3_spec ⟨fl, cp, ar, lf, dn⟩ hok n
    have kk := syn_ok (s := (⟨fl, cp, ar, lf, dn⟩, 0)) h2 n
    rw [show synS n (⟨fl, cp, ar, lf, dn⟩, 0) = chgF ⟨fl, cp, ar, lf, dn⟩ (synR fl n) from stp_ye _ _] at kk
    simp only [uT, u2] at h3
    simp only at q1
    generalize chgF ⟨fl, cp, ar, lf, dn⟩ (synR fl n) = q at *
    have hb := back_spec q.1 kk (by omega) (by omega) [] (by simp)
    have kq := kk.up (k' := k + 2 * (2 + 1)) (u' := u + 2000 * (2 + 1)) (by omega) (by omega)
    generalize hbt : backT [] q.1 = bt at *
    obtain ⟨⟨qfl, qcp, qar, qlf, qdn⟩, qe⟩ := q
    obtain ⟨⟨bfl, bcp, bar, blf, bdn⟩, be⟩ := bt
    simp only [dskV, Dsk.l, List.map_cons, List.map_nil, eS] at q1 hb h3
    have g1 : callIso call 35 [.agg [.d (.l (fl.map Fil.enc)), .d (.i .i64 cp), .d (.b ar), .d (.i .i64 lf), .d (.b dn)], .one (.p 1 0)] [.cells [.f 31 [1], .ns, .f 33 [1, 2], .sl 3 1 0 1, .f 35 [1], .ns, .f 37 [4], .ns, .f 38 [5], .sl 7 1 0 2], .cells [.d (.s n)], .cells [.d (.s x)], .arr 1 [[.s n]] 0, .cells [.d (.s g)], .cells [.ns, .d (.i .i64 0), .d (.b false), .d (.i .i64 0), .d (.b false), .d (.i .i64 ver), .sl 6 3 0 1, .d (.i .i64 at_), .d (.i .i64 at_), .d (.i .i64 x.length), .d (.i .u32 (sumT x))], .arr 3 [[.i .i64 at_, .i .i64 0, .i .i64 0]] 0, .arr 1 [[.s g], [.s n]] 0, .cells [.d (.l (fl.map Fil.enc)), .d (.i .i64 cp), .d (.b ar), .d (.i .i64 lf), .d (.b dn)], .cells [.ns, .d (.i .i64 0), .d (.b false), .d (.i .i64 0), .d (.b false)], .cells [.f 35 [1], .ns]] = some (V.tup [(true, [.d (.l (qfl.map Fil.enc)), .d (.i .i64 qcp), .d (.b qar), .d (.i .i64 qlf), .d (.b qdn)]), (false, [.d (.i .i64 qe)])], [.cells [.f 31 [1], .ns, .f 33 [1, 2], .sl 3 1 0 1, .f 35 [1], .ns, .f 37 [4], .ns, .f 38 [5], .sl 7 1 0 2], .cells [.d (.s n)], .cells [.d (.s x)], .arr 1 [[.s n]] 0, .cells [.d (.s g)], .cells [.ns, .d (.i .i64 0), .d (.b false), .d (.i .i64 0), .d (.b false), .d (.i .i64 ver), .sl 6 3 0 1, .d (.i .i64 at_), .d (.i .i64 at_), .d (.i .i64 x.length), .d (.i .u32 (sumT x))], .arr 3 [[.i .i64 at_, .i .i64 0, .i .i64 0]] 0, .arr 1 [[.s g], [.s n]] 0, .cells [.d (.l (fl.map Fil.enc)), .d (.i .i64 cp), .d (.b ar), .d (.i .i64 lf), .d (.b dn)], .cells [.ns, .d (.i .i64 0), .d (.b false), .d (.i .i64 0), .d (.b false)], .cells [.f 35 [1], .ns]]) := iso_at (ids := [1]) rfl rfl rfl q1 rfl
    by_cases c2 : qe = 0
    · subst c2
      rw [if_neg (by simp)] at h3
      have hR' := hR (2 + 1, ⟨qfl, qcp, qar, qlf, qdn⟩) (by simp only []; omega) ⟨by simp only []; omega, kq, h3⟩
      (simp (disch:=first|decide|omega|(intros;exact rfl)|(simp only[puri];done)) only [wkf, a30_0, g1, go_sem, seval, dis, vdr, A.kind, A.xs, optX])
      exact hR' _ _ hdM
    · rw [if_pos c2] at h3
      cases h3
      have hbt2 : (⟨⟨bfl, bcp, bar, blf, bdn⟩, be⟩ : Dsk × Int) = (⟨zfl, zcp, zar, zlf, zdn⟩, 9) := hbt.symm
      cases hbt2
      by_cases c9 : ze = 9
      · subst c9
        (simp (disch:=first|decide|omega|(intros;exact rfl)|(simp only[puri];done)) only [wkf, a30_0, g1, hb, go_sem, seval, dis, vdr, A.kind, A.xs, optX])
        try simp [trim, V.refs, L.refs, Box.refs]
      · (simp (disch:=first|decide|omega|(intros;exact rfl)|(simp only[puri];done)) only [wkf, a30_0, g1, c2, c9, go_sem, seval, dis, vdr, A.kind, A.xs, optX])
        try simp [trim, V.refs, L.refs, Box.refs]
  · have q1 := c4_spec ⟨fl, cp, ar, lf, dn⟩ hok g
    have kk := crt_ok (s := (⟨fl, cp, ar, lf, dn⟩, 0)) h2 g
    rw [show crtS g (⟨fl, cp, ar, lf, dn⟩, 0) = chgF ⟨fl, cp, ar, lf, dn⟩ (crtR fl g) from stp_ye _ _] at kk
    simp only [uT, u3] at h3
    simp only at q1
    generalize chgF ⟨fl, cp, ar, lf, dn⟩ (crtR fl g) = q at *
    have hb := back_spec q.1 kk (by omega) (by omega) [] (by simp)
    have kq := kk.up (k' := k + 2 * (3 + 1)) (u' := u + 2000 * (3 + 1)) (by omega) (by omega)
    generalize hbt : backT [] q.1 = bt at *
    obtain ⟨⟨qfl, qcp, qar, qlf, qdn⟩, qe⟩ := q
    obtain ⟨⟨bfl, bcp, bar, blf, bdn⟩, be⟩ := bt
    simp only [dskV, Dsk.l, List.map_cons, List.map_nil, eS] at q1 hb h3
    have g1 : callIso call 37 [.agg [.d (.l (fl.map Fil.enc)), .d (.i .i64 cp), .d (.b ar), .d (.i .i64 lf), .d (.b dn)], .one (.p 4 0)] [.cells [.f 31 [1], .ns, .f 33 [1, 2], .sl 3 1 0 1, .f 35 [1], .ns, .f 37 [4], .ns, .f 38 [5], .sl 7 1 0 2], .cells [.d (.s n)], .cells [.d (.s x)], .arr 1 [[.s n]] 0, .cells [.d (.s g)], .cells [.ns, .d (.i .i64 0), .d (.b false), .d (.i .i64 0), .d (.b false), .d (.i .i64 ver), .sl 6 3 0 1, .d (.i .i64 at_), .d (.i .i64 at_), .d (.i .i64 x.length), .d (.i .u32 (sumT x))], .arr 3 [[.i .i64 at_, .i .i64 0, .i .i64 0]] 0, .arr 1 [[.s g], [.s n]] 0, .cells [.d (.l (fl.map Fil.enc)), .d (.i .i64 cp), .d (.b ar), .d (.i .i64 lf), .d (.b dn)], .cells [.ns, .d (.i .i64 0), .d (.b false), .d (.i .i64 0), .d (.b false)], .cells [.f 37 [4], .ns]] = some (V.tup [(true, [.d (.l (qfl.map Fil.enc)), .d (.i .i64 qcp), .d (.b qar), .d (.i .i64 qlf), .d (.b qdn)]), (false, [.d (.i .i64 qe)])], [.cells [.f 31 [1], .ns, .f 33 [1, 2], .sl 3 1 0 1, .f 35 [1], .ns, .f 37 [4], .ns, .f 38 [5], .sl 7 1 0 2], .cells [.d (.s n)], .cells [.d (.s x)], .arr 1 [[.s n]] 0, .cells [.d (.s g)], .cells [.ns, .d (.i .i64 0), .d (.b false), .d (.i .i64 0), .d (.b false), .d (.i .i64 ver), .sl 6 3 0 1, .d (.i .i64 at_), .d (.i .i64 at_), .d (.i .i64 x.length), .d (.i .u32 (sumT x))], .arr 3 [[.i .i64 at_, .i .i64 0, .i .i64 0]] 0, .arr 1 [[.s g], [.s n]] 0, .cells [.d (.l (fl.map Fil.enc)), .d (.i .i64 cp), .d (.b ar), .d (.i .i64 lf), .d (.b dn)], .cells [.ns, .d (.i .i64 0), .d (.b false), .d (.i .i64 0), .d (.b false)], .cells [.f 37 [4], .ns]]) := iso_at (ids := [4]) rfl rfl rfl q1 rfl
    by_cases c2 : qe = 0
    · subst c2
      rw [if_neg (by simp)] at h3
      have hR' := hR (3 + 1, ⟨qfl, qcp, qar, qlf, qdn⟩) (by simp only []; omega) ⟨by simp only []; omega, kq, h3⟩
      (simp (disch:=first|decide|omega|(intros;exact rfl)|(simp only[puri];done)) only [wkf, a30_0, g1, go_sem, seval, dis, vdr, A.kind, A.xs, optX])
      exact hR' _ _ hdM
    · rw [if_pos c2] at h3
      cases h3
      have hbt2 : (⟨⟨bfl, bcp, bar, blf, bdn⟩, be⟩ : Dsk × Int) = (⟨zfl, zcp, zar, zlf, zdn⟩, 9) := hbt.symm
      cases hbt2
      by_cases c9 : ze = 9
      · subst c9
        (simp (disch:=first|decide|omega|(intros;exact rfl)|(simp only[puri];done)) only [wkf, a30_0, g1, hb, go_sem, seval, dis, vdr, A.kind, A.xs, optX])
        try simp [trim, V.refs, L.refs, Box.refs]
      · (simp (disch:=first|decide|omega|(intros;exact rfl)|(simp only[puri];done)) only [wkf, a30_0, g1, c2, c9, go_sem, seval, dis, vdr, A.kind, A.xs, optX])
        try simp [trim, V.refs, L.refs, Box.refs]
  · have q1 := c5_spec ⟨fl, cp, ar, lf, dn⟩ h2 (by omega) (by omega) ver at_ x 0 (by decide)
    have kk := swap_okN (s := (⟨fl, cp, ar, lf, dn⟩, 0)) h2 (newX ver at_ x).man
    simp only [uT, u4] at h3
    simp only [newL] at q1
    generalize swapS (newX ver at_ x).man (⟨fl, cp, ar, lf, dn⟩, 0) = q at *
    have hb := back_spec q.1 kk (by omega) (by omega) [g, n] (by simp)
    have kq := kk.up (k' := k + 2 * (4 + 1)) (u' := u + 2000 * (4 + 1)) (by omega) (by omega)
    generalize hbt : backT [g, n] q.1 = bt at *
    obtain ⟨⟨qfl, qcp, qar, qlf, qdn⟩, qe⟩ := q
    obtain ⟨⟨bfl, bcp, bar, blf, bdn⟩, be⟩ := bt
    simp only [dskV, Dsk.l, List.map_cons, List.map_nil, eS] at q1 hb h3
    have g1 : callIso call 38 [.agg [.d (.l (fl.map Fil.enc)), .d (.i .i64 cp), .d (.b ar), .d (.i .i64 lf), .d (.b dn)], .one (.p 5 0)] [.cells [.f 31 [1], .ns, .f 33 [1, 2], .sl 3 1 0 1, .f 35 [1], .ns, .f 37 [4], .ns, .f 38 [5], .sl 7 1 0 2], .cells [.d (.s n)], .cells [.d (.s x)], .arr 1 [[.s n]] 0, .cells [.d (.s g)], .cells [.ns, .d (.i .i64 0), .d (.b false), .d (.i .i64 0), .d (.b false), .d (.i .i64 ver), .sl 6 3 0 1, .d (.i .i64 at_), .d (.i .i64 at_), .d (.i .i64 x.length), .d (.i .u32 (sumT x))], .arr 3 [[.i .i64 at_, .i .i64 0, .i .i64 0]] 0, .arr 1 [[.s g], [.s n]] 0, .cells [.d (.l (fl.map Fil.enc)), .d (.i .i64 cp), .d (.b ar), .d (.i .i64 lf), .d (.b dn)], .cells [.ns, .d (.i .i64 0), .d (.b false), .d (.i .i64 0), .d (.b false)], .cells [.f 38 [5], .sl 7 1 0 2]] = some (V.tup [(true, [.d (.l (qfl.map Fil.enc)), .d (.i .i64 qcp), .d (.b qar), .d (.i .i64 qlf), .d (.b qdn)]), (false, [.d (.i .i64 qe)])], [.cells [.f 31 [1], .ns, .f 33 [1, 2], .sl 3 1 0 1, .f 35 [1], .ns, .f 37 [4], .ns, .f 38 [5], .sl 7 1 0 2], .cells [.d (.s n)], .cells [.d (.s x)], .arr 1 [[.s n]] 0, .cells [.d (.s g)], .cells [.ns, .d (.i .i64 0), .d (.b false), .d (.i .i64 0), .d (.b false), .d (.i .i64 ver), .sl 6 3 0 1, .d (.i .i64 at_), .d (.i .i64 at_), .d (.i .i64 x.length), .d (.i .u32 (sumT x))], .arr 3 [[.i .i64 at_, .i .i64 0, .i .i64 0]] 1, .arr 1 [[.s g], [.s n]] 0, .cells [.d (.l (fl.map Fil.enc)), .d (.i .i64 cp), .d (.b ar), .d (.i .i64 lf), .d (.b dn)], .cells [.ns, .d (.i .i64 0), .d (.b false), .d (.i .i64 0), .d (.b false)], .cells [.f 38 [5], .sl 7 1 0 2]]) := iso_at (ids := [5, 6]) rfl rfl rfl q1 rfl
    by_cases c9 : qe = 9
    · subst c9
      rw [if_pos rfl] at h3
      cases h3
      (simp (disch:=first|decide|omega|(intros;exact rfl)|(simp only[puri];done)) only [wkf, a30_0, g1, hb, go_sem, seval, dis, vdr, A.kind, A.xs, optX])
      try simp [trim, V.refs, L.refs, Box.refs]
    · rw [if_neg c9] at h3
      by_cases c2 : qe = 0
      · subst c2
        have hR' := hR (4 + 1, ⟨qfl, qcp, qar, qlf, qdn⟩) (by simp only []; omega) ⟨by simp only []; omega, kq, by simp only [uT]; exact h3⟩
        (simp (disch:=first|decide|omega|(intros;exact rfl)|(simp only[puri];done)) only [wkf, a30_0, g1, go_sem, seval, dis, vdr, A.kind, A.xs, optX])
        exact hR' _ _ hdM
      · cases h3
        (simp (disch:=first|decide|omega|(intros;exact rfl)|(simp only[puri];done)) only [wkf, a30_0, g1, c2, c9, go_sem, seval, dis, vdr, A.kind, A.xs, optX])
        try simp [trim, V.refs, L.refs, Box.refs]
  · simp only [uT] at h3
    cases h3
    (simp (disch:=first|decide|omega|(intros;exact rfl)|(simp only[puri];done)) only [wkf, a30_0, a30, go_sem, seval, dis, vdr, A.kind, A.xs, optX])
    try simp [trim, V.refs, L.refs, Box.refs]
end Go.Proofs.YthlnpioogbmogaaGreat

namespace Go.Proofs.YthlnpioogbmogaaGreat
open Go.Vi
def namesT (s : Sto) : List Txt := s.segs.map (fun g => fileN g.base) ++ (if 0 < s.floor then [snapN s.floor] else [])
def instT (s : Sto) (at_ : Int) (x : Txt) : Sto × Int :=
  if parseF x = none ∨ at_ ≤ s.next ∨ 1099511627776 < at_ then (s, 1)
  else if (u0 (snapN at_) (fileN at_) x (newX (s.ver + 1) at_ x).man s.disk).1.2 ≠ 0 then ({ s with disk := (u0 (snapN at_) (fileN at_) x (newX (s.ver + 1) at_ x).man s.disk).1.1 }, (u0 (snapN at_) (fileN at_) x (newX (s.ver + 1) at_ x).man s.disk).1.2)
  else ({ newX (s.ver + 1) at_ x with disk := (goT (namesT s) (u0 (snapN at_) (fileN at_) x (newX (s.ver + 1) at_ x).man s.disk).1.1).1 }, (goT (namesT s) (u0 (snapN at_) (fileN at_) x (newX (s.ver + 1) at_ x).man s.disk).1.1).2)
theorem sum1_spec (x : Txt) (hx : x.length ≤ 1000000) : call 27 [vl [[.s x]]] [] = some (vk .u32 (sumT x), []) := by
  have h := sum_spec [x] (by simp) (fun s hs => by rw [List.mem_singleton.1 hs]; omega)
  have e : crcSum [x] = crcOn 0#32 x := rfl
  rw [e] at h
  exact h
theorem u0_ok {k u : Nat} {d : Dsk} (h : okN k u d) {n g x : Txt} (hx : x.length ≤ 1000) (hk : True) (hu : True) (m : Man) : okN (k + 3) (u + 2000) (u0 n g x m d).1.1 := by
  have back_ok : ∀ {k u : Nat} (l : List Txt) (d : Dsk), okN k u d → okN k u (backT l d).1 := by
    intro k u l
    induction l with
    | nil => intro d h; exact h
    | cons a l ih =>
      intro d h
      have := del_okN (s := (d, 0)) h a
      rw [show delS a (d, 0) = chgF d (delR d.files a) from stp_ye _ _] at this
      simp only [backT]
      split
      · exact this
      · exact ih _ this
  have h1 := crt_ok (s := (d, 0)) h n
  rw [show crtS n (d, 0) = chgF d (crtR d.files n) from stp_ye _ _] at h1
  unfold u0
  split
  · exact h1.up (by omega) (by omega)
  generalize (chgF d (crtR d.files n)).1 = d1 at *
  have h2 := app_ok (s := (d1, 0)) h1 n x
  rw [show appS n x (d1, 0) = chgF d1 (appR d1.files d1.cap n x) from stp_ye _ _] at h2
  unfold u1
  split
  · exact (back_ok _ _ h2).up (by omega) (by omega)
  split
  · exact h2.up (by omega) (by omega)
  generalize (chgF d1 (appR d1.files d1.cap n x)).1 = d2 at *
  have h3 := syn_ok (s := (d2, 0)) h2 n
  rw [show synS n (d2, 0) = chgF d2 (synR d2.files n) from stp_ye _ _] at h3
  unfold u2
  split
  · exact h3.up (by omega) (by omega)
  generalize (chgF d2 (synR d2.files n)).1 = d3 at *
  have h4 := crt_ok (s := (d3, 0)) h3 g
  rw [show crtS g (d3, 0) = chgF d3 (crtR d3.files g) from stp_ye _ _] at h4
  unfold u3
  split
  · exact h4.up (by omega) (by omega)
  generalize (chgF d3 (crtR d3.files g)).1 = d4 at *
  have h5 := swap_okN (s := (d4, 0)) h4 m
  unfold u4
  split
  · exact (back_ok _ _ h5).up (by omega) (by omega)
  · exact h5.up (by omega) (by omega)
set_option maxRecDepth 20000 in
set_option maxHeartbeats 8000000 in
theorem inst_spec {k u : Nat} (s : Sto) (h : okS k u s) (hk : k ≤ 700000) (hu : u ≤ 1000000) (at_ : Int) (hat : -9223372036854775808 ≤ at_ ∧ at_ < 9223372036854775808) (x : Txt) (hx : x.length ≤ 1000) : call 8 [.agg s.l, vi at_, vs x] [] = some (stoV (instT s at_ x), []) := by
  have q1 := parse_fold x (by omega)
  unfold instT
  have hver := h.ver
  by_cases c0 : parseF x = none ∨ at_ ≤ s.next ∨ 1099511627776 < at_
  · rw [if_pos c0]
    obtain ⟨⟨fl, cp, ar, lf, dn⟩, ver, segs, next, sure, size, sum⟩ := s
    simp only [Sto.l, Dsk.l, stoV, List.cons_append, List.nil_append] at c0 ⊢
    apply enterS s8 rfl
    cases hp : parseF x with
    | none =>
      rw [hp] at q1
      simp only [parseV] at q1
      (simp (disch:=first|decide|omega|(intros;exact rfl)|(simp only[puri];done)) only [wkf, a8, q1, go_sem, seval, dis])
      try simp [trim]
    | some l =>
      rw [hp] at q1
      simp only [parseV] at q1
      rw [hp] at c0
      by_cases c1 : at_ ≤ next
      · (simp (disch:=first|decide|omega|(intros;exact rfl)|(simp only[puri];done)) only [wkf, a8, q1, decide_eq_true c1, go_sem, seval, dis])
        try simp [trim]
      · have c2 : 1099511627776 < at_ := by
          rcases c0 with h | h | h
          · cases h
          · exact absurd h c1
          · exact h
        (simp (disch:=first|decide|omega|(intros;exact rfl)|(simp only[puri];done)) only [wkf, a8, q1, decide_eq_false c1, decide_eq_true c2, go_sem, seval, dis])
        try simp [trim]
  · rw [if_neg c0]
    have hp : parseF x ≠ none := fun h => c0 (Or.inl h)
    have c1 : ¬ at_ ≤ s.next := fun h => c0 (Or.inr (Or.inl h))
    have c2 : ¬ 1099511627776 < at_ := fun h => c0 (Or.inr (Or.inr h))
    obtain ⟨l, hl⟩ := Option.ne_none_iff_exists'.1 hp
    rw [hl] at q1
    simp only [parseV] at q1
    have hnx := h.next
    have q2 := snap_int (n := at_) (by omega)
    have q3 := seg_int (n := at_) (by omega)
    have q4 := sum1_spec x (by omega)
    have hs := sumT_lt x
    have qf : call 42 [.agg s.l] [] = some (vi s.floor, []) := floor_spec s
    have hfo := floor_ok h
    have qn := snap_int hfo
    have hseg := h.seg
    have hsl := h.len.2
    have r1 := run_first s.disk h.dsk (by omega) (by omega) (snapN at_) (fileN at_) x hx (s.ver + 1) at_
    have kr : okN (k + 3) (u + 2000) (u0 (snapN at_) (fileN at_) x (newX (s.ver + 1) at_ x).man s.disk).1.1 := u0_ok h.dsk hx trivial trivial _
    obtain ⟨fl', hfl'⟩ : ∃ fl', fl' = s.floor := ⟨_, rfl⟩
    have hnm : namesT s = s.segs.map (fun g => fileN g.base) ++ (if 0 < fl' then [snapN fl'] else []) := by rw [hfl']; rfl
    rw [hnm]
    rw [← hfl'] at qf hfo qn
    clear hnm hfl'
    generalize u0 (snapN at_) (fileN at_) x (newX (s.ver + 1) at_ x).man s.disk = r at *
    obtain ⟨⟨⟨efl, ecp, ear, elf, edn⟩, ee⟩, F1, F2, F3⟩ := r
    obtain ⟨⟨fl, cp, ar, lf, dn⟩, ver, segs, next, sure, size, sum⟩ := s
    simp only [Sto.l, Dsk.l, stoV, dskV, List.cons_append, List.nil_append, HI] at c1 hver r1 qf kr hseg hsl ⊢
    have g1 : callIso call 30 [.agg [.d (.l (fl.map Fil.enc)), .d (.i .i64 cp), .d (.b ar), .d (.i .i64 lf), .d (.b dn)], .one (.sp 10 5)] [.cells [.d (.l (fl.map Fil.enc)), .d (.i .i64 cp), .d (.b ar), .d (.i .i64 lf), .d (.b dn), .d (.i .i64 ver), .d (.l (segs.map Seg.enc)), .d (.i .i64 next), .d (.i .i64 sure), .d (.i .i64 size), .d (.i .u32 sum)], .cells [.d (.s x)], .cells [.ns, .d (.i .i64 0), .d (.b false), .d (.i .i64 0), .d (.b false), .d (.i .i64 0), .ns, .d (.i .i64 0), .d (.i .i64 0), .d (.i .i64 0), .d (.i .u32 0)], .arr 3 [[.i .i64 at_, .i .i64 0, .i .i64 0]] 0, .arr 1 [[.s x]] (max 0 1), .cells [.ns, .d (.i .i64 0), .d (.b false), .d (.i .i64 0), .d (.b false), .d (.i .i64 (ver + 1)), .sl 3 3 0 1, .d (.i .i64 at_), .d (.i .i64 at_), .d (.i .i64 x.length), .d (.i .u32 (sumT x))], .cells [.d (.s (snapN at_))], .cells [.d (.s (fileN at_))], .arr 1 [[.s (snapN at_)]] 0, .arr 1 [[.s (fileN at_)], [.s (snapN at_)]] 0, .cells [.f 31 [6], .ns, .f 33 [6, 1], .sl 8 1 0 1, .f 35 [6], .ns, .f 37 [7], .ns, .f 38 [5], .sl 9 1 0 2]] = some (V.tup [(true, [.d (.l (efl.map Fil.enc)), .d (.i .i64 ecp), .d (.b ear), .d (.i .i64 elf), .d (.b edn)]), (false, [.d (.i .i64 ee)])], [.cells [.d (.l (fl.map Fil.enc)), .d (.i .i64 cp), .d (.b ar), .d (.i .i64 lf), .d (.b dn), .d (.i .i64 ver), .d (.l (segs.map Seg.enc)), .d (.i .i64 next), .d (.i .i64 sure), .d (.i .i64 size), .d (.i .u32 sum)], .cells [.d (.s x)], .cells [.ns, .d (.i .i64 0), .d (.b false), .d (.i .i64 0), .d (.b false), .d (.i .i64 0), .ns, .d (.i .i64 0), .d (.i .i64 0), .d (.i .i64 0), .d (.i .u32 0)], .arr 3 [[.i .i64 at_, .i .i64 0, .i .i64 0]] F2, .arr 1 [[.s x]] (max 0 1), .cells [.ns, .d (.i .i64 0), .d (.b false), .d (.i .i64 0), .d (.b false), .d (.i .i64 (ver + 1)), .sl 3 3 0 1, .d (.i .i64 at_), .d (.i .i64 at_), .d (.i .i64 x.length), .d (.i .u32 (sumT x))], .cells [.d (.s (snapN at_))], .cells [.d (.s (fileN at_))], .arr 1 [[.s (snapN at_)]] F1, .arr 1 [[.s (fileN at_)], [.s (snapN at_)]] F3, .cells [.f 31 [6], .ns, .f 33 [6, 1], .sl 8 1 0 1, .f 35 [6], .ns, .f 37 [7], .ns, .f 38 [5], .sl 9 1 0 2]]) := iso_at (ids := [10, 6, 1, 8, 7, 5, 3, 9]) rfl rfl rfl r1 rfl
    clear r1
    generalize snapN at_ = SN at *
    generalize fileN at_ = SG at *
    apply enterS s8 rfl
    by_cases c3 : ee = 0
    · subst c3
      rw [if_neg (by simp)]
      obtain ⟨FN, hFN⟩ : ∃ FN, FN = snapN fl' := ⟨_, rfl⟩
      rw [← hFN] at qn ⊢
      clear hFN
      obtain ⟨NS, hNS⟩ : ∃ NS, NS = segs.map (fun g => fileN g.base) ++ (if 0 < fl' then [FN] else []) := ⟨_, rfl⟩
      rw [← hNS]
      have hnl : NS.length ≤ 1000 := by
        rw [hNS, List.length_append, List.length_map]
        split <;> simp <;> omega
      have r2 := run_data ⟨efl, ecp, ear, elf, edn⟩ kr (by omega) (by omega) NS hnl
      generalize goT NS ⟨efl, ecp, ear, elf, edn⟩ = z at *
      obtain ⟨⟨zfl, zcp, zar, zlf, zdn⟩, ze⟩ := z
      simp only [Dsk.l, dskV, newX, Sto.l, Seg.enc, List.map_cons, List.map_nil, List.cons_append, List.nil_append] at r2 ⊢
      (simp (disch:=first|decide|omega|(intros;exact rfl)|(simp only[puri];done)) only [wkf, a8, q1, decide_eq_false c1, decide_eq_false c2, ↓iso_callz_e, czK_sl, czR_some, q4, q2, q3, g1, go_sem, seval, dis, vdr, A.kind, A.xs, optX])
      refine loop_boxM (m := 0) (σ := Nat) (fun i => segs.length - i) (fun i => i ≤ segs.length) (fun i => [V.one (.p 0 0), V.one (.p 1 0), V.one (.p 2 0), V.one (.p 4 0), V.one (.sl 5 2 0 (segs.take i).length), vl (segs.map Seg.enc), vi segs.length, vi i])
        (fun i => [.cells [.d (.l (fl.map Fil.enc)), .d (.i .i64 cp), .d (.b ar), .d (.i .i64 lf), .d (.b dn), .d (.i .i64 ver), .d (.l (segs.map Seg.enc)), .d (.i .i64 next), .d (.i .i64 sure), .d (.i .i64 size), .d (.i .u32 sum)], .cells [.ns, .d (.i .i64 0), .d (.b false), .d (.i .i64 0), .d (.b false), .d (.i .i64 0), .ns, .d (.i .i64 0), .d (.i .i64 0), .d (.i .i64 0), .d (.i .u32 0)], .cells [.ns, .d (.i .i64 0), .d (.b false), .d (.i .i64 0), .d (.b false), .d (.i .i64 (ver + 1)), .sl 3 3 0 1, .d (.i .i64 at_), .d (.i .i64 at_), .d (.i .i64 x.length), .d (.i .u32 (sumT x))], .arr 3 [[.i .i64 at_, .i .i64 0, .i .i64 0]] F2, .cells [.d (.l (efl.map Fil.enc)), .d (.i .i64 ecp), .d (.b ear), .d (.i .i64 elf), .d (.b edn)], .arr 2 ((segs.take i).map (fun g => rmD (fileN g.base))) 0])
        (fun _ => (V.tup [(true, [.d (.l (zfl.map Fil.enc)), .d (.i .i64 zcp), .d (.b zar), .d (.i .i64 zlf), .d (.b zdn), .d (.i .i64 (ver + 1)), .d (.l [[.i .i64 at_, .i .i64 0, .i .i64 0]]), .d (.i .i64 at_), .d (.i .i64 at_), .d (.i .i64 x.length), .d (.i .u32 (sumT x))]), (false, [.d (.i .i64 ze)])], ([] : Hp))) ?_ 0 (Nat.zero_le _) _ _ ?_
      rotate_left
      · exact hdM
      clear g1 q1 q2 q3 q4
      intro i hi R hR
      by_cases c4 : i < segs.length
      · have hc4 : (i : Int) < (segs.length : Int) := by omega
        have g1 : (segs.map Seg.enc)[i]? = some [.i .i64 segs[i].base, .i .i64 segs[i].n, .i .i64 segs[i].size] := by
          rw [List.getElem?_map, List.getElem?_eq_getElem c4]; rfl
        have g2 := seg_int (hseg _ (List.getElem_mem c4)).1
        have hR' := hR (i + 1) (by omega) (by omega)
        rw [List.take_succ_eq_append_getElem c4, List.map_append, List.length_append, List.map_cons, List.map_nil, List.length_cons, List.length_nil] at hR'
        have hrl : ((segs.take i).map (fun g => rmD (fileN g.base))).length = (segs.take i).length := by simp
        have hrl2 : (segs.take i).length ≤ 64 := by rw [List.length_take]; omega
        generalize hRQ : (segs.take i).map (fun g => rmD (fileN g.base)) = RQ at *
        generalize (segs.take i).length = RL at *
        have g3 := remove_spec (fileN segs[i].base)
        simp only [rmD] at hR'
        generalize fileN segs[i].base = FB at *
        generalize segs[i] = sg at *
        obtain ⟨sb, sn, sz⟩ := sg
        simp only at g1 g2
        have g4 : callIso call 41 [vs FB] [.cells [.d (.l (fl.map Fil.enc)), .d (.i .i64 cp), .d (.b ar), .d (.i .i64 lf), .d (.b dn), .d (.i .i64 ver), .d (.l (segs.map Seg.enc)), .d (.i .i64 next), .d (.i .i64 sure), .d (.i .i64 size), .d (.i .u32 sum)], .cells [.ns, .d (.i .i64 0), .d (.b false), .d (.i .i64 0), .d (.b false), .d (.i .i64 0), .ns, .d (.i .i64 0), .d (.i .i64 0), .d (.i .i64 0), .d (.i .u32 0)], .cells [.ns, .d (.i .i64 0), .d (.b false), .d (.i .i64 0), .d (.b false), .d (.i .i64 (ver + 1)), .sl 3 3 0 1, .d (.i .i64 at_), .d (.i .i64 at_), .d (.i .i64 x.length), .d (.i .u32 (sumT x))], .arr 3 [[.i .i64 at_, .i .i64 0, .i .i64 0]] F2, .cells [.d (.l (efl.map Fil.enc)), .d (.i .i64 ecp), .d (.b ear), .d (.i .i64 elf), .d (.b edn)], .arr 2 RQ 0, .cells [.d (.i .i64 sb), .d (.i .i64 sn), .d (.i .i64 sz)]] =
          some (.agg [.f 83 [7], .ns], [.cells [.d (.l (fl.map Fil.enc)), .d (.i .i64 cp), .d (.b ar), .d (.i .i64 lf), .d (.b dn), .d (.i .i64 ver), .d (.l (segs.map Seg.enc)), .d (.i .i64 next), .d (.i .i64 sure), .d (.i .i64 size), .d (.i .u32 sum)], .cells [.ns, .d (.i .i64 0), .d (.b false), .d (.i .i64 0), .d (.b false), .d (.i .i64 0), .ns, .d (.i .i64 0), .d (.i .i64 0), .d (.i .i64 0), .d (.i .u32 0)], .cells [.ns, .d (.i .i64 0), .d (.b false), .d (.i .i64 0), .d (.b false), .d (.i .i64 (ver + 1)), .sl 3 3 0 1, .d (.i .i64 at_), .d (.i .i64 at_), .d (.i .i64 x.length), .d (.i .u32 (sumT x))], .arr 3 [[.i .i64 at_, .i .i64 0, .i .i64 0]] F2, .cells [.d (.l (efl.map Fil.enc)), .d (.i .i64 ecp), .d (.b ear), .d (.i .i64 elf), .d (.b edn)], .arr 2 RQ 0, .cells [.d (.i .i64 sb), .d (.i .i64 sn), .d (.i .i64 sz)], .cells [.d (.s FB)], .cells [.f 83 [7], .ns]]) := iso_at (ids := []) rfl rfl rfl g3 rfl
        (simp (disch:=first|decide|omega|(intros;exact rfl)|(simp only[puri];done)) only [wkf, a8_0, decide_eq_true hc4, g1, g2, g4, fnLs, fzCaps, hrl, go_sem, seval, dis, vdr, A.kind, A.xs, optX])
        exact hR' _ _ hdM
      · have hc4 : ¬ (i : Int) < (segs.length : Int) := by omega
        have htk : segs.take i = segs := List.take_of_length_le (by omega)
        rw [htk]
        have hnt : List.take NS.length (NS.map rmD) = NS.map rmD := List.take_of_length_le (by simp)
        by_cases c5 : 0 < fl'
        · rw [if_pos c5] at hNS
          have hrl : (segs.map (fun g => rmD (fileN g.base))).length = segs.length := by simp
          have hrw : segs.map (fun g => rmD (fileN g.base)) ++ [[.fn 83 [[.s FN]], .l []]] = NS.map rmD := by rw [hNS]; simp [rmD]
          have hnl2 : segs.length + 1 = NS.length := by rw [hNS]; simp
          have g3 := remove_spec FN
          generalize segs.map (fun g => rmD (fileN g.base)) = RQ at *
          have g4 : callIso call 41 [vs FN] [.cells [.d (.l (fl.map Fil.enc)), .d (.i .i64 cp), .d (.b ar), .d (.i .i64 lf), .d (.b dn), .d (.i .i64 ver), .d (.l (segs.map Seg.enc)), .d (.i .i64 next), .d (.i .i64 sure), .d (.i .i64 size), .d (.i .u32 sum)], .cells [.ns, .d (.i .i64 0), .d (.b false), .d (.i .i64 0), .d (.b false), .d (.i .i64 0), .ns, .d (.i .i64 0), .d (.i .i64 0), .d (.i .i64 0), .d (.i .u32 0)], .cells [.ns, .d (.i .i64 0), .d (.b false), .d (.i .i64 0), .d (.b false), .d (.i .i64 (ver + 1)), .sl 3 3 0 1, .d (.i .i64 at_), .d (.i .i64 at_), .d (.i .i64 x.length), .d (.i .u32 (sumT x))], .arr 3 [[.i .i64 at_, .i .i64 0, .i .i64 0]] F2, .cells [.d (.l (efl.map Fil.enc)), .d (.i .i64 ecp), .d (.b ear), .d (.i .i64 elf), .d (.b edn)], .arr 2 RQ 0] =
            some (.agg [.f 83 [6], .ns], [.cells [.d (.l (fl.map Fil.enc)), .d (.i .i64 cp), .d (.b ar), .d (.i .i64 lf), .d (.b dn), .d (.i .i64 ver), .d (.l (segs.map Seg.enc)), .d (.i .i64 next), .d (.i .i64 sure), .d (.i .i64 size), .d (.i .u32 sum)], .cells [.ns, .d (.i .i64 0), .d (.b false), .d (.i .i64 0), .d (.b false), .d (.i .i64 0), .ns, .d (.i .i64 0), .d (.i .i64 0), .d (.i .i64 0), .d (.i .u32 0)], .cells [.ns, .d (.i .i64 0), .d (.b false), .d (.i .i64 0), .d (.b false), .d (.i .i64 (ver + 1)), .sl 3 3 0 1, .d (.i .i64 at_), .d (.i .i64 at_), .d (.i .i64 x.length), .d (.i .u32 (sumT x))], .arr 3 [[.i .i64 at_, .i .i64 0, .i .i64 0]] F2, .cells [.d (.l (efl.map Fil.enc)), .d (.i .i64 ecp), .d (.b ear), .d (.i .i64 elf), .d (.b edn)], .arr 2 RQ 0, .cells [.d (.s FN)], .cells [.f 83 [6], .ns]]) := iso_at (ids := []) rfl rfl rfl g3 rfl
          (simp (disch:=first|decide|omega|(intros;exact rfl)|(simp only[puri];done)) only [wkf, a8_0, a8, decide_eq_false hc4, qf, qn, decide_eq_true c5, g4, fnLs, fzCaps, hrl, hrw, hnl2, hnt, r2, go_sem, seval, dis, vdr, A.kind, A.xs, optX])
          try simp [trim]
        · rw [if_neg c5, List.append_nil] at hNS
          have hrl : (segs.map (fun g => rmD (fileN g.base))).length = segs.length := by simp
          have hrw : segs.map (fun g => rmD (fileN g.base)) = NS.map rmD := by rw [hNS]; simp
          have hnl2 : segs.length = NS.length := by rw [hNS]; simp
          rw [hrw] at hrl ⊢
          rw [show (.sl 5 2 0 segs.length : L) = .sl 5 2 0 NS.length by rw [hnl2]]
          (simp (disch:=first|decide|omega|(intros;exact rfl)|(simp only[puri];done)) only [wkf, a8_0, a8, decide_eq_false hc4, qf, decide_eq_false c5, hnt, r2, go_sem, seval, dis, vdr, A.kind, A.xs, optX])
          try simp [trim]
    · rw [if_pos c3]
      (simp (disch:=first|decide|omega|(intros;exact rfl)|(simp only[puri];done)) only [wkf, a8, q1, decide_eq_false c1, decide_eq_false c2, ↓iso_callz_e, czK_sl, czR_some, q4, q2, q3, g1, c3, go_sem, seval, dis, vdr, A.kind, A.xs, optX])
      try simp [trim, c3]
end Go.Proofs.YthlnpioogbmogaaGreat

namespace Go.Proofs.YthlnpioogbmogaaGreat
open Go.Vi
def undoT (l : List Txt) (r : Dsk × Int) : Dsk × Int := if r.2 ≠ 9 then r else backT l r.1
set_option maxHeartbeats 2000000 in
theorem undo15_spec {k u : Nat} (d : Dsk) (hd : okN k u d) (hk : k ≤ 900000) (hu : u ≤ 900000000000) (e : Int) (l : List Txt) (hl : l.length ≤ 1000) : call 86 [.agg d.l, vi e, vl (l.map eS)] [] = some (dskV (undoT l (d, e)), []) := by
  by_cases ce : e ≠ 9
  · have eu : undoT l (d, e) = (d, e) := by unfold undoT; rw [if_pos ce]
    rw [eu]
    obtain ⟨dfl, dcp, dar, dlf, ddn⟩ := d
    simp only [dskV, Dsk.l]
    apply enterS s86 rfl
    (simp (disch:=first|decide|omega|(intros;exact rfl)|(simp only[puri];done)) only [wkf, a86, ce, go_sem, seval, dis])
    try simp [trim, ce]
  have ce' : e = 9 := by simpa using ce
  subst ce'
  have eu : undoT l (d, 9) = backT l d := by unfold undoT; rw [if_neg (by simp)]
  rw [eu]
  obtain ⟨Z, hZ⟩ : ∃ Z, Z = backT l d := ⟨_, rfl⟩
  rw [← hZ]
  obtain ⟨⟨zfl, zcp, zar, zlf, zdn⟩, ze⟩ := Z
  simp only [dskV, Dsk.l]
  apply enterS s86 rfl
  obtain ⟨dfl, dcp, dar, dlf, ddn⟩ := d
  (simp (disch:=first|decide|omega|(intros;exact rfl)|(simp only[puri];done)) only [wkf, a86, go_sem, seval, dis])
  refine loop_boxM (m := 0) (σ := Nat × Dsk) (fun t => l.length - t.1) (fun t => t.1 ≤ l.length ∧ okN k u t.2 ∧ backT (l.drop t.1) t.2 = (⟨zfl, zcp, zar, zlf, zdn⟩, ze)) (fun t => [vl (l.map eS), V.one (.p 0 0), V.one (.p 1 0), vi t.1])
    (fun t => [.cells [.d (.l (t.2.files.map Fil.enc)), .d (.i .i64 t.2.cap), .d (.b t.2.armed), .d (.i .i64 t.2.left), .d (.b t.2.down)], .cells [.ns, .d (.i .i64 0), .d (.b false), .d (.i .i64 0), .d (.b false)]])
    (fun _ => (V.tup [(true, [.d (.l (zfl.map Fil.enc)), .d (.i .i64 zcp), .d (.b zar), .d (.i .i64 zlf), .d (.b zdn)]), (false, [.d (.i .i64 ze)])], [])) ?_ (0, ⟨dfl, dcp, dar, dlf, ddn⟩) ⟨Nat.zero_le _, hd, hZ.symm⟩ _ _ ?_
  rotate_left
  · exact hdM
  rintro ⟨i, ⟨fl, cp, ar, lf, dn⟩⟩ ⟨h1, h2, h3⟩ R hR
  simp only at h1 h2 h3 ⊢
  by_cases c : i < l.length
  · have hc : (i : Int) < (l.length : Int) := by omega
    rw [List.drop_eq_getElem_cons c, backT] at h3
    have g1 : (l.map eS)[i]? = some [.s l[i]] := by rw [List.getElem?_map, List.getElem?_eq_getElem c]; rfl
    generalize l[i] = n at *
    have g2 := rdelete_spec ⟨fl, cp, ar, lf, dn⟩ (h2.ok (by omega) (by omega)) n
    have kk := del_okN (s := (⟨fl, cp, ar, lf, dn⟩, 0)) h2 n
    rw [show delS n (⟨fl, cp, ar, lf, dn⟩, 0) = chgF ⟨fl, cp, ar, lf, dn⟩ (delR fl n) from stp_ye _ _] at kk
    simp only at g2 h3
    generalize chgF ⟨fl, cp, ar, lf, dn⟩ (delR fl n) = q at *
    obtain ⟨⟨qfl, qcp, qar, qlf, qdn⟩, qe⟩ := q
    simp only [dskV, Dsk.l] at g2 h3
    by_cases c2 : qe = 0
    · subst c2
      rw [if_neg (by simp)] at h3
      have hR' := hR (i + 1, ⟨qfl, qcp, qar, qlf, qdn⟩) (by simp only []; omega) ⟨by simp only []; omega, kk, h3⟩
      (simp (disch:=first|decide|omega|(intros;exact rfl)|(simp only[puri];done)) only [wkf, a86_0, decide_eq_true hc, g1, g2, go_sem, seval, dis, vdr, A.kind, A.xs, optX])
      exact hR' _ _ hdM
    · rw [if_pos c2] at h3
      cases h3
      (simp (disch:=first|decide|omega|(intros;exact rfl)|(simp only[puri];done)) only [wkf, a86_0, decide_eq_true hc, g1, g2, c2, go_sem, seval, dis, vdr, A.kind, A.xs, optX])
      try simp [trim, c2]
  · have hc : ¬ (i : Int) < (l.length : Int) := by omega
    rw [List.drop_eq_nil_of_le (by omega), backT] at h3
    cases h3
    (simp (disch:=first|decide|omega|(intros;exact rfl)|(simp only[puri];done)) only [wkf, a86_0, a86, decide_eq_false hc, go_sem, seval, dis, vdr, A.kind, A.xs, optX])
    try simp [trim]
theorem back_ok {k u : Nat} : ∀ (l : List Txt) (d : Dsk), okN k u d → okN k u (backT l d).1
  | [], d, h => h
  | a :: l, d, h => by
    have := del_okN (s := (d, 0)) h a
    rw [show delS a (d, 0) = chgF d (delR d.files a) from stp_ye _ _] at this
    simp only [backT]
    split
    · exact this
    · exact back_ok l _ this
theorem back_ne : ∀ (l : List Txt) (d : Dsk), (backT l d).2 ≠ 0
  | [], d => by simp [backT]
  | a :: l, d => by
    simp only [backT]
    split
    · assumption
    · exact back_ne l _
set_option maxRecDepth 20000 in
set_option maxHeartbeats 4000000 in
theorem rlay_spec {k u : Nat} (d : Dsk) (hd : okN k u d) (hk : k ≤ 800000) (hu : u ≤ 800000000000) (at_ : Int) (hat : 0 ≤ at_ ∧ at_ ≤ 1099511627776) (x : Txt) (hx : x.length ≤ 1000) (m : Man) (hm : m.ok) (hms : m.segs = [at_]) : call 44 [.agg d.l, .agg m.l, vs x] [] = some (dskV (u0 (snapN at_) (fileN at_) x m d).1, []) := by
  have q1 := rsnap_int hat
  have q2 := rseg_spec hat
  have a1 := rcreate_spec d (hd.ok (by omega) (by omega)) (snapN at_)
  have k1 := crt_ok (s := (d, 0)) hd (snapN at_)
  rw [show crtS (snapN at_) (d, 0) = chgF d (crtR d.files (snapN at_)) from stp_ye _ _] at k1
  have hml : m.l = [.d (.i .i64 m.ver), .d (.l [[.i .i64 at_]]), .d (.i .i64 m.size), .d (.i .u32 m.sum)] := by unfold Man.l; rw [hms]; rfl
  have hsw := fun (d : Dsk) {k u : Nat} (hd : okN k u d) (hk : k ≤ 900000) (hu : u ≤ 900000000000) => rswap_spec d hd hk hu m hm
  rw [hml] at hsw ⊢
  generalize snapN at_ = n at *
  generalize fileN at_ = g at *
  unfold u0
  apply enterS s44 rfl
  generalize chgF d (crtR d.files n) = a at *
  by_cases c1 : a.2 = 0
  · rw [if_neg (by simp [c1])]
    unfold u1
    have a2 := rappend_spec a.1 (k1.ok (by omega) (by omega)) n x (by omega)
    have k2 := app_ok (s := (a.1, 0)) k1 n x
    rw [show appS n x (a.1, 0) = chgF a.1 (appR a.1.files a.1.cap n x) from stp_ye _ _] at k2
    generalize chgF a.1 (appR a.1.files a.1.cap n x) = p at *
    have a3 := undo15_spec p.1 k2 (by omega) (by omega) p.2 [n] (by simp)
    have k3 : okN (k + 1) (u + x.length) (undoT [n] (p.1, p.2)).1 := by
      unfold undoT; split
      · exact k2
      · exact back_ok _ _ k2
    have eb : (if p.2 = 9 then ((backT [n] p.1, 1, 0, 0) : LR) else if p.2 ≠ 0 then (p, 0, 0, 0) else u2 n g m p.1).1 = if (undoT [n] (p.1, p.2)).2 ≠ 0 then undoT [n] (p.1, p.2) else (u2 n g m (undoT [n] (p.1, p.2)).1).1 := by
      by_cases c9 : p.2 = 9
      · have e : undoT [n] (p.1, p.2) = backT [n] p.1 := by unfold undoT; rw [if_neg (by simp [c9])]
        rw [e, if_pos c9, if_pos (back_ne _ _)]
      · have e : undoT [n] (p.1, p.2) = p := by unfold undoT; rw [if_pos c9]
        rw [e, if_neg c9]
        by_cases c0 : p.2 = 0
        · rw [if_neg (by simp [c0]), if_neg (by simp [c0])]
        · rw [if_pos c0, if_pos c0]
    rw [eb]
    clear eb
    generalize undoT [n] (p.1, p.2) = b at *
    by_cases c2 : b.2 = 0
    · rw [if_neg (by simp [c2])]
      unfold u2
      have a4 := rsync_spec b.1 (k3.ok (by omega) (by omega)) n
      have k4 := syn_ok (s := (b.1, 0)) k3 n
      rw [show synS n (b.1, 0) = chgF b.1 (synR b.1.files n) from stp_ye _ _] at k4
      generalize chgF b.1 (synR b.1.files n) = c at *
      by_cases c3 : c.2 = 0
      · rw [if_neg (by simp [c3])]
        unfold u3
        have a5 := rcreate_spec c.1 (k4.ok (by omega) (by omega)) g
        have k5 := crt_ok (s := (c.1, 0)) k4 g
        rw [show crtS g (c.1, 0) = chgF c.1 (crtR c.1.files g) from stp_ye _ _] at k5
        generalize chgF c.1 (crtR c.1.files g) = f at *
        by_cases c4 : f.2 = 0
        · rw [if_neg (by simp [c4])]
          unfold u4
          have a6 := hsw f.1 k5 (by omega) (by omega)
          have k6 := swap_okN (s := (f.1, 0)) k5 m
          generalize swapS m (f.1, 0) = w at *
          have a7 := undo15_spec w.1 k6 (by omega) (by omega) w.2 [g, n] (by simp)
          have eb : (if w.2 = 9 then ((backT [g, n] w.1, 0, 1, 2) : LR) else (w, 0, 1, 0)).1 = undoT [g, n] (w.1, w.2) := by
            unfold undoT
            by_cases c9 : w.2 = 9
            · rw [if_pos c9, if_neg (by simp [c9])]
            · rw [if_neg c9, if_pos c9]
          rw [eb]
          clear eb
          generalize undoT [g, n] (w.1, w.2) = v at *
          obtain ⟨⟨fl, cp, ar, lf, dn⟩, ae⟩ := a
          obtain ⟨⟨fl1, cp1, ar1, lf1, dn1⟩, pe⟩ := p
          obtain ⟨⟨fl2, cp2, ar2, lf2, dn2⟩, be⟩ := b
          obtain ⟨⟨fl3, cp3, ar3, lf3, dn3⟩, ce⟩ := c
          obtain ⟨⟨fl4, cp4, ar4, lf4, dn4⟩, fe⟩ := f
          obtain ⟨⟨fl5, cp5, ar5, lf5, dn5⟩, we⟩ := w
          obtain ⟨⟨fl6, cp6, ar6, lf6, dn6⟩, ve⟩ := v
          obtain ⟨dfl, dcp, dar, dlf, ddn⟩ := d
          simp only at c1 c2 c3 c4
          subst c1 c2 c3 c4
          simp only [Dsk.l, dskV, eS, List.map_cons, List.map_nil] at *
          (simp (disch:=first|decide|omega|(intros;exact rfl)|(simp only[puri];done)) only [wkf, a44, q1, q2, a1, a2, a3, a4, a5, a6, a7, go_sem, seval, dis])
          try simp [trim]
        · rw [if_pos c4]
          obtain ⟨⟨fl, cp, ar, lf, dn⟩, ae⟩ := a
          obtain ⟨⟨fl1, cp1, ar1, lf1, dn1⟩, pe⟩ := p
          obtain ⟨⟨fl2, cp2, ar2, lf2, dn2⟩, be⟩ := b
          obtain ⟨⟨fl3, cp3, ar3, lf3, dn3⟩, ce⟩ := c
          obtain ⟨⟨fl4, cp4, ar4, lf4, dn4⟩, fe⟩ := f
          obtain ⟨dfl, dcp, dar, dlf, ddn⟩ := d
          simp only at c1 c2 c3
          subst c1 c2 c3
          simp only [Dsk.l, dskV, eS, List.map_cons, List.map_nil] at *
          (simp (disch:=first|decide|omega|(intros;exact rfl)|(simp only[puri];done)) only [wkf, a44, q1, q2, a1, a2, a3, a4, a5, c4, go_sem, seval, dis])
          try simp [trim, c4]
      · rw [if_pos c3]
        obtain ⟨⟨fl, cp, ar, lf, dn⟩, ae⟩ := a
        obtain ⟨⟨fl1, cp1, ar1, lf1, dn1⟩, pe⟩ := p
        obtain ⟨⟨fl2, cp2, ar2, lf2, dn2⟩, be⟩ := b
        obtain ⟨⟨fl3, cp3, ar3, lf3, dn3⟩, ce⟩ := c
        obtain ⟨dfl, dcp, dar, dlf, ddn⟩ := d
        simp only at c1 c2
        subst c1 c2
        simp only [Dsk.l, dskV, eS, List.map_cons, List.map_nil] at *
        (simp (disch:=first|decide|omega|(intros;exact rfl)|(simp only[puri];done)) only [wkf, a44, q1, q2, a1, a2, a3, a4, c3, go_sem, seval, dis])
        try simp [trim, c3]
    · rw [if_pos c2]
      obtain ⟨⟨fl, cp, ar, lf, dn⟩, ae⟩ := a
      obtain ⟨⟨fl1, cp1, ar1, lf1, dn1⟩, pe⟩ := p
      obtain ⟨⟨fl2, cp2, ar2, lf2, dn2⟩, be⟩ := b
      obtain ⟨dfl, dcp, dar, dlf, ddn⟩ := d
      simp only at c1
      subst c1
      simp only [Dsk.l, dskV, eS, List.map_cons, List.map_nil] at *
      (simp (disch:=first|decide|omega|(intros;exact rfl)|(simp only[puri];done)) only [wkf, a44, q1, q2, a1, a2, a3, c2, go_sem, seval, dis])
      try simp [trim, c2]
  · rw [if_pos c1]
    obtain ⟨⟨fl, cp, ar, lf, dn⟩, ae⟩ := a
    obtain ⟨dfl, dcp, dar, dlf, ddn⟩ := d
    simp only [Dsk.l, dskV] at *
    (simp (disch:=first|decide|omega|(intros;exact rfl)|(simp only[puri];done)) only [wkf, a44, q1, q2, a1, c1, go_sem, seval, dis])
    try simp [trim, c1]
end Go.Proofs.YthlnpioogbmogaaGreat

namespace Go.Proofs.YthlnpioogbmogaaGreat
open Go.Vi
theorem goT_app : ∀ (A B : List Txt) (d : Dsk), goT (A ++ B) d = if (goT A d).2 = 0 then goT B (goT A d).1 else goT A d
  | [], B, d => by simp [goT]
  | a :: A, B, d => by
    by_cases c : (chgF d (delR d.files a)).2 = 0
    · have e1 : goT (a :: A) d = goT A (chgF d (delR d.files a)).1 := if_pos c
      have e2 : goT (a :: (A ++ B)) d = goT (A ++ B) (chgF d (delR d.files a)).1 := if_pos c
      rw [List.cons_append, e1, e2]; exact goT_app A B _
    · have e1 : goT (a :: A) d = chgF d (delR d.files a) := if_neg c
      have e2 : goT (a :: (A ++ B)) d = chgF d (delR d.files a) := if_neg c
      rw [List.cons_append, e1, e2, if_neg c]
theorem goT_dels : ∀ (l : List Seg) (d : Dsk), goT (l.map (fun g => fileN g.base)) d = delsF l (d, 0)
  | [], d => rfl
  | g :: l, d => by
    have e : delsF (g :: l) (d, 0) = delsF l (chgF d (delR d.files (fileN g.base))) := by
      show delsF l (delS (fileN g.base) (d, 0)) = _
      rw [show delS (fileN g.base) (d, 0) = chgF d (delR d.files (fileN g.base)) from stp_ye _ _]
    rw [e, List.map_cons, goT]
    by_cases c : (chgF d (delR d.files (fileN g.base))).2 = 0
    · rw [if_pos c, goT_dels l]
      rw [← pair_eta c]
    · rw [if_neg c, dels_no c]
theorem go_names (s : Sto) (d : Dsk) (fl : Int) : goT (s.segs.map (fun g => fileN g.base) ++ (if 0 < fl then [snapN fl] else [])) d = (if (delsF s.segs (d, 0)).2 = 0 ∧ 0 < fl then delS (snapN fl) (delsF s.segs (d, 0)) else delsF s.segs (d, 0)) := by
  rw [goT_app, goT_dels]
  generalize delsF s.segs (d, 0) = q
  by_cases c : q.2 = 0
  · rw [if_pos c]
    by_cases c2 : 0 < fl
    · rw [if_pos c2, if_pos ⟨c, c2⟩]
      have e : delS (snapN fl) q = chgF q.1 (delR q.1.files (snapN fl)) := if_pos c
      rw [e]
      simp only [goT]
      by_cases c3 : (chgF q.1 (delR q.1.files (snapN fl))).2 = 0
      · rw [if_pos c3, ← pair_eta c3]
      · rw [if_neg c3]
    · rw [if_neg c2, if_neg (fun h => c2 h.2)]
      simp only [goT]
      exact (pair_eta c).symm
  · rw [if_neg c, if_neg (fun h => c h.1)]
set_option maxRecDepth 20000 in
set_option maxHeartbeats 8000000 in
theorem rinst_spec {k u : Nat} (s : Sto) (h : okS k u s) (hk : k ≤ 700000) (hu : u ≤ 1000000) (at_ : Int) (hat : -9223372036854775808 ≤ at_ ∧ at_ < 9223372036854775808) (x : Txt) (hx : x.length ≤ 1000) : call 9 [.agg s.l, vi at_, vs x] [] = some (stoV (instT s at_ x), []) := by
  have q1 := parse_ref x (by omega)
  unfold instT
  have hver := h.ver
  by_cases c0 : parseF x = none ∨ at_ ≤ s.next ∨ 1099511627776 < at_
  · rw [if_pos c0]
    obtain ⟨⟨fl, cp, ar, lf, dn⟩, ver, segs, next, sure, size, sum⟩ := s
    simp only [Sto.l, Dsk.l, stoV, List.cons_append, List.nil_append] at c0 ⊢
    have hv : ∃ (rows : List (List D)) (ok : Bool), parseV (parseF x) = .tup [(false, [.d (.l rows)]), (false, [.d (.b ok)])] ∧ (ok = true → parseF x ≠ none) := by
      cases hp : parseF x with
      | none => exact ⟨_, _, rfl, fun h => by cases h⟩
      | some l => exact ⟨_, _, rfl, fun _ h => by cases h⟩
    obtain ⟨rows, ok, hv, hok⟩ := hv
    rw [hv] at q1
    apply enterS s9 rfl
    by_cases c1 : at_ ≤ next
    · (simp (disch:=first|decide|omega|(intros;exact rfl)|(simp only[puri];done)) only [wkf, a9, q1, decide_eq_true c1, go_sem, seval, dis])
      try simp [trim]
    · by_cases c2 : 1099511627776 < at_
      · (simp (disch:=first|decide|omega|(intros;exact rfl)|(simp only[puri];done)) only [wkf, a9, q1, decide_eq_false c1, decide_eq_true c2, go_sem, seval, dis])
        try simp [trim]
      · have hf : ok = false := by
          cases ok with
          | false => rfl
          | true =>
            rcases c0 with h | h | h
            · exact absurd h (hok rfl)
            · exact absurd h c1
            · exact absurd h c2
        subst hf
        (simp (disch:=first|decide|omega|(intros;exact rfl)|(simp only[puri];done)) only [wkf, a9, q1, decide_eq_false c1, decide_eq_false c2, go_sem, seval, dis])
        try simp [trim]
  · rw [if_neg c0]
    have hp : parseF x ≠ none := fun h => c0 (Or.inl h)
    have c1 : ¬ at_ ≤ s.next := fun h => c0 (Or.inr (Or.inl h))
    have c2 : ¬ 1099511627776 < at_ := fun h => c0 (Or.inr (Or.inr h))
    obtain ⟨l, hl⟩ := Option.ne_none_iff_exists'.1 hp
    rw [hl] at q1
    simp only [parseV] at q1
    have hnx := h.next
    have q4 := refOf_spec x (by omega)
    have es : sumT x = (((crcOn 0#32 x).toNat : Nat) : Int) := rfl
    rw [← es] at q4
    have hs := sumT_lt x
    have qf := rfloor_spec s
    have hfo := floor_ok h
    have qn := rsnap_int hfo
    have hseg := h.seg
    have hsl := h.len.2
    have q5 := rman_spec (newX (s.ver + 1) at_ x) (by show 1 ≤ 1000000; decide)
    have r1 := rlay_spec s.disk h.dsk (by omega) (by omega) at_ (by omega) x hx (newX (s.ver + 1) at_ x).man (newX_ok _ _ _) rfl
    have kr : okN (k + 3) (u + 2000) (u0 (snapN at_) (fileN at_) x (newX (s.ver + 1) at_ x).man s.disk).1.1 := u0_ok h.dsk hx trivial trivial _
    obtain ⟨fl', hfl'⟩ : ∃ fl', fl' = s.floor := ⟨_, rfl⟩
    have hnm : namesT s = s.segs.map (fun g => fileN g.base) ++ (if 0 < fl' then [snapN fl'] else []) := by rw [hfl']; rfl
    rw [hnm, go_names]
    rw [← hfl'] at qf hfo qn
    clear hnm hfl'
    generalize (u0 (snapN at_) (fileN at_) x (newX (s.ver + 1) at_ x).man s.disk).1 = r at *
    obtain ⟨⟨efl, ecp, ear, elf, edn⟩, ee⟩ := r
    generalize snapN fl' = FN at *
    obtain ⟨Z, hZ⟩ : ∃ Z : V, Z = stoV ({ newX (s.ver + 1) at_ x with disk := (if (delsF s.segs (⟨efl, ecp, ear, elf, edn⟩, 0)).2 = 0 ∧ 0 < fl' then delS FN (delsF s.segs (⟨efl, ecp, ear, elf, edn⟩, 0)) else delsF s.segs (⟨efl, ecp, ear, elf, edn⟩, 0)).1 }, (if (delsF s.segs (⟨efl, ecp, ear, elf, edn⟩, 0)).2 = 0 ∧ 0 < fl' then delS FN (delsF s.segs (⟨efl, ecp, ear, elf, edn⟩, 0)) else delsF s.segs (⟨efl, ecp, ear, elf, edn⟩, 0)).2) := ⟨_, rfl⟩
    generalize hQ : delsF s.segs (⟨efl, ecp, ear, elf, edn⟩, 0) = Q at *
    obtain ⟨⟨fl, cp, ar, lf, dn⟩, ver, segs, next, sure, size, sum⟩ := s
    simp only [newX, Sto.l, Sto.man, Man.l, Dsk.l, stoV, dskV, Seg.enc, eI, List.map_cons, List.map_nil, List.cons_append, List.nil_append] at c1 hver r1 q5 qf kr hseg hsl hQ hZ ⊢
    apply enterS s9 rfl
    by_cases c3 : ee = 0
    · subst c3
      rw [if_neg (by simp)]
      refine (?_ : _ = some (Z, ([] : Hp))).trans (by rw [hZ]; rfl)
      (simp (disch:=first|decide|omega|(intros;exact rfl)|(simp only[puri];done)) only [wkf, a9, q1, decide_eq_false c1, decide_eq_false c2, ↓iso_callzB_e, czKB_a, splitB, isDN, List.all_cons, List.all_nil, Bool.and_self, cond_true, czR_some, q4, q5, r1, go_sem, seval, dis, vdr, A.kind, A.xs, optX])
      refine loop_boxM (m := 0) (σ := Nat × (Dsk × Int)) (fun t => segs.length - t.1) (fun t => t.1 ≤ segs.length ∧ okN (k + 3) (u + 2000) t.2.1 ∧ delsF (segs.drop t.1) t.2 = Q) (fun t => [V.one (.p 0 0), V.one (.p 1 0), V.one (.p 2 0), V.one (.p 4 0), vi t.2.2, vi t.1])
        (fun t => [.cells [.d (.l (fl.map Fil.enc)), .d (.i .i64 cp), .d (.b ar), .d (.i .i64 lf), .d (.b dn), .d (.i .i64 ver), .d (.l (segs.map Seg.enc)), .d (.i .i64 next), .d (.i .i64 sure), .d (.i .i64 size), .d (.i .u32 sum)], .cells [.ns, .d (.i .i64 0), .d (.b false), .d (.i .i64 0), .d (.b false), .d (.i .i64 0), .ns, .d (.i .i64 0), .d (.i .i64 0), .d (.i .i64 0), .d (.i .u32 0)], .cells [.ns, .d (.i .i64 0), .d (.b false), .d (.i .i64 0), .d (.b false), .d (.i .i64 (ver + 1)), .sl 3 3 0 1, .d (.i .i64 at_), .d (.i .i64 at_), .d (.i .i64 x.length), .d (.i .u32 (sumT x))], .arr 3 [[.i .i64 at_, .i .i64 0, .i .i64 0]] 1, .cells [.d (.l (t.2.1.files.map Fil.enc)), .d (.i .i64 t.2.1.cap), .d (.b t.2.1.armed), .d (.i .i64 t.2.1.left), .d (.b t.2.1.down)]]) (fun _ => (Z, [])) ?_ (0, (⟨efl, ecp, ear, elf, edn⟩, 0)) ⟨Nat.zero_le _, kr, by simpa using hQ⟩ _ _ ?_
      rotate_left
      · exact hdM
      rintro ⟨i, ⟨⟨dfl, dcp, dar, dlf, ddn⟩, de⟩⟩ ⟨h1, h2, h3⟩ R hR
      simp only at h1 h2 h3 ⊢
      clear q1 q4 q5 r1 hQ
      by_cases he : de = 0
      · subst he
        by_cases hi : i < segs.length
        · have g1 : (segs.map Seg.enc)[i]? = some [.i .i64 segs[i].base, .i .i64 segs[i].n, .i .i64 segs[i].size] := by
            rw [List.getElem?_map, List.getElem?_eq_getElem hi]; rfl
          have g2 := rseg_spec (hseg _ (List.getElem_mem hi)).1
          have g3 := rdelete_spec ⟨dfl, dcp, dar, dlf, ddn⟩ (h2.ok (by omega) (by omega)) (fileN segs[i].base)
          have kk := del_okN (s := (⟨dfl, dcp, dar, dlf, ddn⟩, 0)) h2 (fileN segs[i].base)
          have e1 : delS (fileN segs[i].base) (⟨dfl, dcp, dar, dlf, ddn⟩, 0) = chgF ⟨dfl, dcp, dar, dlf, ddn⟩ (delR dfl (fileN segs[i].base)) := stp_ye _ _
          have e2 : delsF (segs.drop i) (⟨dfl, dcp, dar, dlf, ddn⟩, 0) = delsF (segs.drop (i + 1)) (delS (fileN segs[i].base) (⟨dfl, dcp, dar, dlf, ddn⟩, 0)) := by rw [List.drop_eq_getElem_cons hi]; rfl
          rw [e2, e1] at h3
          rw [e1] at kk
          simp only at g3
          generalize chgF ⟨dfl, dcp, dar, dlf, ddn⟩ (delR dfl (fileN segs[i].base)) = q at *
          have hR' := hR (i + 1, q) (by simp only []; omega) ⟨by simp only []; omega, kk, h3⟩
          generalize fileN segs[i].base = FB at *
          obtain ⟨⟨qfl, qcp, qar, qlf, qdn⟩, qe⟩ := q
          simp only [Dsk.l, dskV] at g3 hR'
          have hci : (i : Int) < (segs.length : Int) := by omega
          (simp (disch:=first|decide|omega|(intros;exact rfl)|(simp only[puri];done)) only [wkf, a9_0, decide_eq_true hci, g1, g2, g3, go_sem, seval, dis, vdr, A.kind, A.xs, optX])
          exact hR' _ _ hdM
        · have hci : ¬ (i : Int) < (segs.length : Int) := by omega
          rw [List.drop_eq_nil_of_le (by omega)] at h3
          have h3' : Q = (⟨dfl, dcp, dar, dlf, ddn⟩, 0) := h3.symm
          subst h3'
          by_cases hf : 0 < fl'
          · rw [if_pos ⟨rfl, hf⟩] at hZ
            have g3 := rdelete_spec ⟨dfl, dcp, dar, dlf, ddn⟩ (h2.ok (by omega) (by omega)) FN
            have e1 : delS FN (⟨dfl, dcp, dar, dlf, ddn⟩, 0) = chgF ⟨dfl, dcp, dar, dlf, ddn⟩ (delR dfl FN) := stp_ye _ _
            rw [e1] at hZ
            simp only at g3
            generalize chgF ⟨dfl, dcp, dar, dlf, ddn⟩ (delR dfl FN) = q at *
            obtain ⟨⟨qfl, qcp, qar, qlf, qdn⟩, qe⟩ := q
            simp only [Dsk.l, dskV] at g3 hZ
            rw [hZ]
            (simp (disch:=first|decide|omega|(intros;exact rfl)|(simp only[puri];done)) only [wkf, a9_0, a9, decide_eq_false hci, qf, qn, decide_eq_true hf, g3, go_sem, seval, dis, vdr, A.kind, A.xs, optX])
            try simp [trim]
          · rw [if_neg (fun h => hf h.2)] at hZ
            simp only at hZ
            rw [hZ]
            (simp (disch:=first|decide|omega|(intros;exact rfl)|(simp only[puri];done)) only [wkf, a9_0, a9, decide_eq_false hci, qf, decide_eq_false hf, go_sem, seval, dis, vdr, A.kind, A.xs, optX])
            try simp [trim]
      · rw [dels_no he] at h3
        subst h3
        rw [if_neg (fun h => he h.1)] at hZ
        simp only at hZ
        rw [hZ]
        have he' : (de == 0) = false := by simpa using he
        by_cases hi : i < segs.length
        · have hci : (i : Int) < (segs.length : Int) := by omega
          (simp (disch:=first|decide|omega|(intros;exact rfl)|(simp only[puri];done)) only [wkf, a9_0, a9, decide_eq_true hci, he, he', go_sem, seval, dis, vdr, A.kind, A.xs, optX])
          try simp [trim]
        · have hci : ¬ (i : Int) < (segs.length : Int) := by omega
          (simp (disch:=first|decide|omega|(intros;exact rfl)|(simp only[puri];done)) only [wkf, a9_0, a9, decide_eq_false hci, he, he', go_sem, seval, dis, vdr, A.kind, A.xs, optX])
          try simp [trim]
    · rw [if_pos c3]
      (simp (disch:=first|decide|omega|(intros;exact rfl)|(simp only[puri];done)) only [wkf, a9, q1, decide_eq_false c1, decide_eq_false c2, ↓iso_callzB_e, czKB_a, splitB, isDN, List.all_cons, List.all_nil, Bool.and_self, cond_true, czR_some, q4, q5, r1, c3, go_sem, seval, dis, vdr, A.kind, A.xs, optX])
      try simp [trim, c3]
end Go.Proofs.YthlnpioogbmogaaGreat

