import Derived.Test.YthlnpioogbmogaaGreatT02
import Derived.Test.YthlnpioogbmogaaGreatT04
set_option linter.unusedSimpArgs false
set_option linter.unusedVariables false
namespace Go.Proofs.YthlnpioogbmogaaGreat
open Go.Vi
structure Pr where
  key : Int
  val : List UInt8
  deriving DecidableEq
def Pr.enc (e : Pr) : List D := [.i .u8 e.key, .s e.val]
theorem Pr.len (e : Pr) : e.enc.length = 2 := Eq.trans rfl rfl
theorem Pr.tk (e : Pr) : e.enc.take 2 = e.enc := Eq.trans rfl rfl
theorem Pr.tkL (e : Pr) : (e.enc.map L.d).take 2 = e.enc.map L.d := Eq.trans rfl rfl
theorem Pr.dat (e : Pr) : dataLs (e.enc.map L.d) = some (e.enc.map L.d) := Eq.trans rfl rfl
theorem Pr.rfs (e : Pr) : (e.enc.map L.d).flatMap L.refs = [] := Eq.trans rfl rfl
theorem Pr.rn (e : Pr) (g : Nat → Option Nat) : (e.enc.map L.d).map (L.ren g) = e.enc.map L.d := Eq.trans rfl rfl
theorem Pr.lenL (e : Pr) : (e.enc.map L.d).length = 2 := Eq.trans rfl rfl
theorem Pr.at0 (e : Pr) : e.enc[0]? = some (.i .u8 e.key) := Eq.trans rfl rfl
theorem Pr.fd0 (e : Pr) : (e.enc.map L.d)[0]? = some (.d (.i .u8 e.key)) := Eq.trans rfl rfl
theorem Pr.at1 (e : Pr) : (e.enc.drop 1)[0]? = some (.s e.val) := Eq.trans rfl rfl
theorem Pr.fd1 (e : Pr) : (e.enc.map L.d)[1]? = some (.d (.s e.val)) := Eq.trans rfl rfl
theorem Pr.up1 (e : Pr) (x : List UInt8) : e.enc.take 1 ++ [.s x] ++ e.enc.drop 2 = ({ e with val := x } : Pr).enc := Eq.trans rfl rfl
def Pr.ok (e : Pr) : Prop := (0 ≤ e.key ∧ e.key < 256) ∧ e.val.length ≤ 9223372036854775807
def Pr.ty : List Ty := [.i .u8, .s]
theorem Pr.eqs (a b : Pr) : scEqs [0, 2] (a.enc.map L.d) (b.enc.map L.d) = some (decide (a = b)) := by
  cases a; cases b
  simp only [Pr.enc, List.map_cons, List.map_nil, scEqs, scEq, if_true, Pr.mk.injEq]
  congr 1
  rw [Bool.eq_iff_iff]
  simp only [Bool.and_eq_true, beq_iff_eq, decide_eq_true_eq, and_true]
theorem Pr.of (r : List D) (h : wfRow Pr.ty r) : ∃ e : Pr, r = e.enc ∧ e.ok := by
  simp only [Pr.ty, wfRow, wfT] at h
  obtain ⟨_, _, rfl, ⟨x0, rfl, h0, g0⟩, ⟨_, _, rfl, ⟨x1, rfl, h1⟩, rfl⟩⟩ := h
  refine ⟨⟨x0, x1⟩, rfl, ?_⟩
  exact ⟨⟨Int.le_trans (by decide) h0, Int.lt_of_le_of_lt g0 (by decide)⟩, h1⟩
def prOk (p : Pr) : Bool := decide (1 ≤ p.val.length) && decide (p.val.length ≤ 63)
def keyAt (l : List Pr) (i : Nat) : Int := match l[i]? with | some p => p.key | none => 0
def atOk (l : List Pr) (i : Nat) : Bool := match l[i]? with
  | some p => prOk p && (decide (i = 0) || decide (keyAt l (i - 1) < p.key))
  | none => true
def rightF (l : List Pr) : Bool := (List.range l.length).all (atOk l)
theorem right_from (l : List Pr) (i : Nat) (h : i < l.length) : ((List.range l.length).drop i).all (atOk l) = (atOk l i && ((List.range l.length).drop (i + 1)).all (atOk l)) := by
  rw [List.drop_eq_getElem_cons (by simpa using h), List.all_cons, List.getElem_range]
theorem right_end (l : List Pr) (i : Nat) (h : l.length ≤ i) : ((List.range l.length).drop i).all (atOk l) = true := by
  rw [List.drop_eq_nil_of_le (by simpa using h)]; rfl
set_option maxHeartbeats 1000000 in
theorem right_fold (l : List Pr) (hl : l.length ≤ 1000000) : call 71 [vl (l.map Pr.enc)] [] = some (vb (rightF l), []) := by
  apply enterS s71 rfl
  (simp (disch:=first|decide|omega|(intros;exact rfl)|(simp only[puri];done)) only [a71, go_sem, seval, dis])
  refine loop_boxM (m := 0) (σ := Nat) (fun i => l.length - i) (fun i => i ≤ l.length ∧ rightF l = ((List.range l.length).drop i).all (atOk l)) (fun i => [vl (l.map Pr.enc), vl (l.map Pr.enc), vi l.length, vi i]) (fun _ => [])
    (fun _ => (vb (rightF l), [])) ?_ 0 ⟨Nat.zero_le _, rfl⟩ _ _ hdM
  intro i ⟨h1, h2⟩ R hR
  by_cases hi : i < l.length
  · rw [right_from l i hi] at h2
    have g1 : (l.map Pr.enc)[i]? = some l[i].enc := by simp [hi]
    have ha : atOk l i = (prOk l[i] && (decide (i = 0) || decide (keyAt l (i - 1) < l[i].key))) := by simp [atOk, hi]
    rw [ha] at h2
    obtain ⟨p, hp⟩ : ∃ p, p = l[i] := ⟨_, rfl⟩
    rw [← hp] at g1 h2
    by_cases c1 : p.val = []
    · have e : rightF l = false := by rw [h2]; simp [prOk, c1]
      have hv : (p.val == []) = true := by rw [c1]; rfl
      rw [e]
      (simp (disch:=first|decide|omega|(intros;exact rfl)|(simp only[puri];done)) only [a71_0, g1, Pr.len, Pr.tkL, Pr.tk, Pr.at0, Pr.at1, Pr.enc, hv, go_sem, seval, dis])
      try simp [trim]
    · have hv : (p.val == []) = false := by simpa using c1
      have hv1 : 1 ≤ p.val.length := List.length_pos_iff.2 c1
      by_cases c2 : (p.val.length : Int) ≥ 64
      · have e : rightF l = false := by rw [h2]; simp [prOk]; omega
        rw [e]
        (simp (disch:=first|decide|omega|(intros;exact rfl)|(simp only[puri];done)) only [a71_0, g1, Pr.enc, hv, decide_eq_true c2, go_sem, seval, dis])
        try simp [trim]
      · have hk : prOk p = true := by simp [prOk]; omega
        rw [hk, Bool.true_and] at h2
        by_cases c3 : i = 0
        · have hi0 : ¬ (0 : Int) < (i : Int) := by omega
          rw [decide_eq_true c3, Bool.true_or, Bool.true_and] at h2
          (simp (disch:=first|decide|omega|(intros;exact rfl)|(simp only[puri];done)) only [a71_0, g1, Pr.enc, hv, decide_eq_false c2, decide_eq_false hi0, go_sem, seval, dis])
          exact hR (i + 1) (by omega) ⟨by omega, h2⟩ _ _ hdM
        · have hi0 : (0 : Int) < (i : Int) := by omega
          have hm : ((i : Int) - 1).toNat = i - 1 := by omega
          have hm0 : (0 : Int) ≤ (i : Int) - 1 := by omega
          have g2 : (l.map Pr.enc)[i - 1]? = some l[i - 1].enc := by rw [List.getElem?_map, List.getElem?_eq_getElem (by omega)]; rfl
          have hq : keyAt l (i - 1) = l[i - 1].key := by
            have : l[i - 1]? = some l[i - 1] := List.getElem?_eq_getElem (by omega)
            simp [keyAt, this]
          rw [hq, decide_eq_false c3, Bool.false_or] at h2
          obtain ⟨q, hqe⟩ : ∃ q, q = l[i - 1] := ⟨_, rfl⟩
          rw [← hqe] at g2 h2
          by_cases c4 : p.key ≤ q.key
          · have e : rightF l = false := by rw [h2, decide_eq_false (by omega)]; rfl
            rw [e]
            (simp (disch:=first|decide|omega|(intros;exact rfl)|(simp only[puri];done)) only [a71_0, g1, g2, hm, hm0, Pr.enc, hv, decide_eq_false c2, decide_eq_true hi0, decide_eq_true c4, go_sem, seval, dis])
            try simp [trim]
          · rw [decide_eq_true (p := q.key < p.key) (by omega), Bool.true_and] at h2
            (simp (disch:=first|decide|omega|(intros;exact rfl)|(simp only[puri];done)) only [a71_0, g1, g2, hm, hm0, Pr.enc, hv, decide_eq_false c2, decide_eq_true hi0, decide_eq_false c4, go_sem, seval, dis])
            exact hR (i + 1) (by omega) ⟨by omega, h2⟩ _ _ hdM
  · have e : rightF l = true := by rw [h2, right_end l i (by omega)]
    rw [e]
    (simp (disch:=first|decide|omega|(intros;exact rfl)|(simp only[puri];done)) only [a71_0, a71, go_sem, seval, dis])
    try simp [trim]
set_option maxHeartbeats 1000000 in
theorem right_ref (l : List Pr) (hl : l.length ≤ 1000000) : call 51 [vl (l.map Pr.enc)] [] = some (vb (rightF l), []) := by
  apply enterS s51 rfl
  (simp (disch:=first|decide|omega|(intros;exact rfl)|(simp only[puri];done)) only [a51, go_sem, seval, dis])
  refine loop_boxM (m := 0) (σ := Nat) (fun i => l.length - i) (fun i => i ≤ l.length ∧ rightF l = ((List.range l.length).drop i).all (atOk l)) (fun i => [vl (l.map Pr.enc), vi i]) (fun _ => [])
    (fun _ => (vb (rightF l), [])) ?_ 0 ⟨Nat.zero_le _, rfl⟩ _ _ hdM
  intro i ⟨h1, h2⟩ R hR
  by_cases hi : i < l.length
  · rw [right_from l i hi] at h2
    have g1 : (l.map Pr.enc)[i]? = some l[i].enc := by simp [hi]
    have ha : atOk l i = (prOk l[i] && (decide (i = 0) || decide (keyAt l (i - 1) < l[i].key))) := by simp [atOk, hi]
    rw [ha] at h2
    obtain ⟨p, hp⟩ : ∃ p, p = l[i] := ⟨_, rfl⟩
    rw [← hp] at g1 h2
    by_cases c1 : (p.val.length : Int) < 1
    · have e : rightF l = false := by rw [h2]; simp [prOk]; omega
      rw [e]
      (simp (disch:=first|decide|omega|(intros;exact rfl)|(simp only[puri];done)) only [a51_0, g1, Pr.enc, decide_eq_true c1, go_sem, seval, dis])
      try simp [trim]
    · by_cases c2 : (63 : Int) < p.val.length
      · have e : rightF l = false := by rw [h2]; simp [prOk]; omega
        rw [e]
        (simp (disch:=first|decide|omega|(intros;exact rfl)|(simp only[puri];done)) only [a51_0, g1, Pr.enc, decide_eq_false c1, decide_eq_true c2, go_sem, seval, dis])
        try simp [trim]
      · have hk : prOk p = true := by simp [prOk]; omega
        rw [hk, Bool.true_and] at h2
        by_cases c3 : i = 0
        · have hi0 : ¬ (0 : Int) < (i : Int) := by omega
          rw [decide_eq_true c3, Bool.true_or, Bool.true_and] at h2
          (simp (disch:=first|decide|omega|(intros;exact rfl)|(simp only[puri];done)) only [a51_0, g1, Pr.enc, decide_eq_false c1, decide_eq_false c2, decide_eq_false hi0, go_sem, seval, dis])
          exact hR (i + 1) (by omega) ⟨by omega, h2⟩ _ _ hdM
        · have hi0 : (0 : Int) < (i : Int) := by omega
          have hm : ((i : Int) - 1).toNat = i - 1 := by omega
          have hm0 : (0 : Int) ≤ (i : Int) - 1 := by omega
          have g2 : (l.map Pr.enc)[i - 1]? = some l[i - 1].enc := by rw [List.getElem?_map, List.getElem?_eq_getElem (by omega)]; rfl
          have hq : keyAt l (i - 1) = l[i - 1].key := by
            have : l[i - 1]? = some l[i - 1] := List.getElem?_eq_getElem (by omega)
            simp [keyAt, this]
          rw [hq, decide_eq_false c3, Bool.false_or] at h2
          obtain ⟨q, hqe⟩ : ∃ q, q = l[i - 1] := ⟨_, rfl⟩
          rw [← hqe] at g2 h2
          by_cases c4 : p.key ≤ q.key
          · have e : rightF l = false := by rw [h2, decide_eq_false (by omega)]; rfl
            rw [e]
            (simp (disch:=first|decide|omega|(intros;exact rfl)|(simp only[puri];done)) only [a51_0, g1, g2, hm, hm0, Pr.enc, decide_eq_false c1, decide_eq_false c2, decide_eq_true hi0, decide_eq_true c4, go_sem, seval, dis])
            try simp [trim]
          · rw [decide_eq_true (p := q.key < p.key) (by omega), Bool.true_and] at h2
            (simp (disch:=first|decide|omega|(intros;exact rfl)|(simp only[puri];done)) only [a51_0, g1, g2, hm, hm0, Pr.enc, decide_eq_false c1, decide_eq_false c2, decide_eq_true hi0, decide_eq_false c4, go_sem, seval, dis])
            exact hR (i + 1) (by omega) ⟨by omega, h2⟩ _ _ hdM
  · have e : rightF l = true := by rw [h2, right_end l i (by omega)]
    rw [e]
    (simp (disch:=first|decide|omega|(intros;exact rfl)|(simp only[puri];done)) only [a51_0, a51, go_sem, seval, dis])
    try simp [trim]
end Go.Proofs.YthlnpioogbmogaaGreat

namespace Go.Proofs.YthlnpioogbmogaaGreat
open Go.Vi
def pairF (s : List UInt8) (a : Nat) : Option (Pr × Nat) := match rdF (s.drop (a + 1)) 0 0 with
  | some (n, k) => if s.length < a + 1 + k + n then none else some (⟨((s[a]?.getD 0).toNat : Int), (s.take (a + 1 + k + n)).drop (a + 1 + k)⟩, a + 1 + k + n)
  | none => none
def parsF (s : List UInt8) : Nat → Nat → List Pr → Option (List Pr × Nat)
  | 0, a, out => some (out, a)
  | n + 1, a, out => match pairF s a with
    | some (p, b) => parsF s n b (out ++ [p])
    | none => none
def endF (s : List UInt8) : Option (List Pr × Nat) → Option (List Pr)
  | some (out, a) => if a = s.length ∧ rightF out = true then some out else none
  | none => none
def parseF (s : List UInt8) : Option (List Pr) := match rdF s 0 0 with
  | some (n, k) => if 256 < n then none else endF s (parsF s n k [])
  | none => none
def parseV : Option (List Pr) → V
  | some l => .tup [(false, [.d (.l (l.map Pr.enc))]), (false, [.d (.b true)])]
  | none => .tup [(false, [.d (.l [])]), (false, [.d (.b false)])]
set_option maxRecDepth 4000 in
set_option maxHeartbeats 2000000 in
theorem parse_fold (s : List UInt8) (hs : s.length ≤ 1000000000) : call 26 [vs s] [] = some (parseV (parseF s), []) := by
  apply enterS s26 rfl
  have h0 := read_spec s 0 (by decide) (by omega)
  rw [List.drop_zero] at h0
  have z0 : ((0 : Nat) : Int) = 0 := rfl
  rw [z0] at h0
  cases hn : rdF s 0 0 with
  | none =>
    have e : parseF s = none := by simp only [parseF, hn]
    rw [hn] at h0
    rw [e]
    (simp (disch:=first|decide|omega|(intros;exact rfl)|(simp only[puri];done)) only [a26, h0, rdV, parseV, go_sem, seval, dis])
    try simp [trim]
  | some q =>
    obtain ⟨n, k⟩ := q
    have hk := (rdF_enc0 hn).2.1
    rw [hn] at h0
    by_cases c1 : (256 : Int) < (n : Int)
    · have e : parseF s = none := by simp only [parseF, hn]; rw [if_pos (by omega)]
      rw [e]
      (simp (disch:=first|decide|omega|(intros;exact rfl)|(simp only[puri];done)) only [a26, h0, rdV, parseV, decide_eq_true c1, go_sem, seval, dis])
      try simp [trim]
    · have e : parseF s = endF s (parsF s n k []) := by simp only [parseF, hn]; rw [if_neg (by omega)]
      rw [e]
      have ek : (((0 + k : Nat)) : Int) = (k : Int) := by rw [Nat.zero_add]
      (simp (disch:=first|decide|omega|(intros;exact rfl)|(simp only[puri];done)) only [a26, h0, rdV, decide_eq_false c1, ek, go_sem, seval, dis])
      refine loop_boxM (m := 0) (σ := Nat × Nat × List Pr) (fun t => n - t.1) (fun t => t.1 ≤ n ∧ t.2.1 ≤ s.length ∧ t.2.2.length = t.1 ∧ parsF s n k [] = parsF s (n - t.1) t.2.1 t.2.2) (fun t => [vs s, vi t.2.1, V.one (.sl 0 2 0 t.2.2.length), vi n, vi t.1]) (fun t => [.arr 2 (t.2.2.map Pr.enc) 0])
        (fun _ => (parseV (endF s (parsF s n k [])), [])) ?_ (0, k, []) ⟨Nat.zero_le _, hk, rfl, rfl⟩ _ _ hdM
      rintro ⟨i, a, out⟩ ⟨h1, h2, h3, h4⟩ R hR
      simp only at h1 h2 h3 h4
      by_cases hi : i < n
      · obtain ⟨m, hm⟩ : ∃ m, n - i = m + 1 := ⟨n - i - 1, by omega⟩
        rw [hm, parsF] at h4
        have hr := read_spec s (a + 1) (by omega) (by omega)
        rw [Int.natCast_add, Int.natCast_one] at hr
        cases hp : rdF (s.drop (a + 1)) 0 0 with
        | none =>
          have e1 : parsF s n k [] = none := by rw [h4]; simp only [pairF, hp]
          rw [hp] at hr
          rw [e1]
          (simp (disch:=first|decide|omega|(intros;exact rfl)|(simp only[puri];done)) only [a26_0, hr, rdV, parseV, endF, go_sem, seval, dis])
          try simp [trim]
        | some q =>
          obtain ⟨w, j⟩ := q
          have hj := rdF_enc0 hp
          have hjl : a + 1 + j ≤ s.length := by have := hj.2.1; rw [List.length_drop] at this; omega
          rw [hp] at hr
          by_cases c2 : (s.length : Int) - ((a + 1 + j : Nat) : Int) < (w : Int)
          · have e1 : parsF s n k [] = none := by rw [h4]; simp only [pairF, hp]; rw [if_pos (by omega)]
            rw [e1]
            (simp (disch:=first|decide|omega|(intros;exact rfl)|(simp only[puri];done)) only [a26_0, hr, rdV, parseV, endF, decide_eq_true c2, go_sem, seval, dis])
            try simp [trim]
          · have ha : a < s.length := by omega
            have hc : s[a]? = some s[a] := List.getElem?_eq_getElem ha
            have e1 : pairF s a = some (⟨(s[a].toNat : Int), (s.take (a + 1 + j + w)).drop (a + 1 + j)⟩, a + 1 + j + w) := by
              simp only [pairF, hp]; rw [if_neg (by omega), hc]; rfl
            rw [e1] at h4
            simp only at h4
            have ew : (((a + 1 + j : Nat)) : Int) + (w : Int) = ((a + 1 + j + w : Nat) : Int) := by omega
            have hw : (((a + 1 + j + w : Nat)) : Int).toNat = a + 1 + j + w := by omega
            (simp (disch:=first|decide|omega|(intros;exact rfl)|(simp only[puri];done)) only [a26_0, hr, rdV, decide_eq_false c2, hc, ew, go_sem, seval, dis])
            have hR' := hR ((i + 1, a + 1 + j + w, out ++ [⟨(s[a].toNat : Int), (s.take (a + 1 + j + w)).drop (a + 1 + j)⟩])) (by first | omega | (simp only []; omega)) ⟨by omega, by simp only []; omega, by simp [h3], by rw [h4]; congr 1; omega⟩; simp only [Pr.enc, List.length_append, List.length_cons, List.length_nil, Nat.zero_add, List.map_append, List.map_cons, List.map_nil] at hR'; exact hR' _ _ hdM
      · have hin : i = n := by omega
        subst hin
        rw [Nat.sub_self, parsF] at h4
        rw [h4]
        have hr := right_fold out (by omega)
        have ht : List.take out.length (out.map Pr.enc) = out.map Pr.enc := List.take_of_length_le (by simp)
        by_cases c3 : (a : Int) < (s.length : Int)
        · have e1 : endF s (some (out, a)) = none := by simp only [endF]; rw [if_neg (by omega)]
          rw [e1]
          (simp (disch:=first|decide|omega|(intros;exact rfl)|(simp only[puri];done)) only [a26_0, a26, decide_eq_true c3, parseV, go_sem, seval, dis])
          try simp [trim]
        · cases hq : rightF out with
          | false =>
            have e1 : endF s (some (out, a)) = none := by simp only [endF, hq]; rw [if_neg (by simp)]
            rw [e1]
            rw [hq] at hr
            (simp (disch:=first|decide|omega|(intros;exact rfl)|(simp only[puri];done)) only [a26_0, a26, decide_eq_false c3, hr, ht, parseV, go_sem, seval, dis])
            try simp [trim]
          | true =>
            have e1 : endF s (some (out, a)) = some out := by simp only [endF, hq]; rw [if_pos ⟨by omega, trivial⟩]
            rw [e1]
            rw [hq] at hr
            (simp (disch:=first|decide|omega|(intros;exact rfl)|(simp only[puri];done)) only [a26_0, a26, decide_eq_false c3, hr, ht, parseV, go_sem, seval, dis])
            try simp [trim]
end Go.Proofs.YthlnpioogbmogaaGreat

namespace Go.Proofs.YthlnpioogbmogaaGreat
open Go.Vi
set_option maxRecDepth 4000 in
set_option maxHeartbeats 2000000 in
theorem parse_ref (s : List UInt8) (hs : s.length ≤ 1000000000) : call 12 [vs s] [] = some (parseV (parseF s), []) := by
  apply enterS s12 rfl
  have h0 := refRead_spec s 0 (by decide) (by omega)
  rw [List.drop_zero] at h0
  have z0 : ((0 : Nat) : Int) = 0 := rfl
  rw [z0] at h0
  cases hn : rdF s 0 0 with
  | none =>
    have e : parseF s = none := by simp only [parseF, hn]
    rw [hn] at h0
    rw [e]
    (simp (disch:=first|decide|omega|(intros;exact rfl)|(simp only[puri];done)) only [a12, h0, rdV, parseV, go_sem, seval, dis])
    try simp [trim]
  | some q =>
    obtain ⟨n, k⟩ := q
    have hk := (rdF_enc0 hn).2.1
    rw [hn] at h0
    by_cases c1 : (256 : Int) < (n : Int)
    · have e : parseF s = none := by simp only [parseF, hn]; rw [if_pos (by omega)]
      rw [e]
      (simp (disch:=first|decide|omega|(intros;exact rfl)|(simp only[puri];done)) only [a12, h0, rdV, parseV, decide_eq_true c1, go_sem, seval, dis])
      try simp [trim]
    · have e : parseF s = endF s (parsF s n k []) := by simp only [parseF, hn]; rw [if_neg (by omega)]
      rw [e]
      have ek : (((0 + k : Nat)) : Int) = (k : Int) := by rw [Nat.zero_add]
      (simp (disch:=first|decide|omega|(intros;exact rfl)|(simp only[puri];done)) only [a12, h0, rdV, decide_eq_false c1, ek, go_sem, seval, dis])
      refine loop_boxM (m := 0) (σ := Nat × Nat × List Pr) (fun t => n - t.1) (fun t => t.1 ≤ n ∧ t.2.1 ≤ s.length ∧ t.2.2.length = t.1 ∧ parsF s n k [] = parsF s (n - t.1) t.2.1 t.2.2) (fun t => [vs s, vi n, vi t.2.1, V.one (.sl 0 2 0 t.2.2.length), vi t.1]) (fun t => [.arr 2 (t.2.2.map Pr.enc) 0])
        (fun _ => (parseV (endF s (parsF s n k [])), [])) ?_ (0, k, []) ⟨Nat.zero_le _, hk, rfl, rfl⟩ _ _ hdM
      rintro ⟨i, a, out⟩ ⟨h1, h2, h3, h4⟩ R hR
      simp only at h1 h2 h3 h4
      by_cases hi : i < n
      · by_cases ca : (s.length : Int) ≤ (a : Int)
        · have e0 : rdF (s.drop (a + 1)) 0 0 = none := by rw [List.drop_eq_nil_of_le (by omega)]; rfl
          obtain ⟨m, hm⟩ : ∃ m, n - i = m + 1 := ⟨n - i - 1, by omega⟩
          have e1 : parsF s n k [] = none := by rw [h4, hm, parsF]; simp only [pairF, e0]
          rw [e1]
          (simp (disch:=first|decide|omega|(intros;exact rfl)|(simp only[puri];done)) only [a12_0, decide_eq_true ca, parseV, endF, go_sem, seval, dis])
          try simp [trim]
        obtain ⟨m, hm⟩ : ∃ m, n - i = m + 1 := ⟨n - i - 1, by omega⟩
        rw [hm, parsF] at h4
        have hr := refRead_spec s (a + 1) (by omega) (by omega)
        rw [Int.natCast_add, Int.natCast_one] at hr
        cases hp : rdF (s.drop (a + 1)) 0 0 with
        | none =>
          have e1 : parsF s n k [] = none := by rw [h4]; simp only [pairF, hp]
          rw [hp] at hr
          rw [e1]
          (simp (disch:=first|decide|omega|(intros;exact rfl)|(simp only[puri];done)) only [a12_0, decide_eq_false ca, hr, rdV, parseV, endF, go_sem, seval, dis])
          try simp [trim]
        | some q =>
          obtain ⟨w, j⟩ := q
          have hj := rdF_enc0 hp
          have hjl : a + 1 + j ≤ s.length := by have := hj.2.1; rw [List.length_drop] at this; omega
          rw [hp] at hr
          by_cases c2 : (s.length : Int) - ((a + 1 + j : Nat) : Int) < (w : Int)
          · have e1 : parsF s n k [] = none := by rw [h4]; simp only [pairF, hp]; rw [if_pos (by omega)]
            rw [e1]
            (simp (disch:=first|decide|omega|(intros;exact rfl)|(simp only[puri];done)) only [a12_0, decide_eq_false ca, hr, rdV, parseV, endF, decide_eq_true c2, go_sem, seval, dis])
            try simp [trim]
          · have ha : a < s.length := by omega
            have hc : s[a]? = some s[a] := List.getElem?_eq_getElem ha
            have e1 : pairF s a = some (⟨(s[a].toNat : Int), (s.take (a + 1 + j + w)).drop (a + 1 + j)⟩, a + 1 + j + w) := by
              simp only [pairF, hp]; rw [if_neg (by omega), hc]; rfl
            rw [e1] at h4
            simp only at h4
            have ew : (((a + 1 + j : Nat)) : Int) + (w : Int) = ((a + 1 + j + w : Nat) : Int) := by omega
            have hw : (((a + 1 + j + w : Nat)) : Int).toNat = a + 1 + j + w := by omega
            (simp (disch:=first|decide|omega|(intros;exact rfl)|(simp only[puri];done)) only [a12_0, decide_eq_false ca, hr, rdV, decide_eq_false c2, hc, ew, go_sem, seval, dis])
            have hR' := hR ((i + 1, a + 1 + j + w, out ++ [⟨(s[a].toNat : Int), (s.take (a + 1 + j + w)).drop (a + 1 + j)⟩])) (by first | omega | (simp only []; omega)) ⟨by omega, by simp only []; omega, by simp [h3], by rw [h4]; congr 1; omega⟩; simp only [Pr.enc, List.length_append, List.length_cons, List.length_nil, Nat.zero_add, List.map_append, List.map_cons, List.map_nil] at hR'; exact hR' _ _ hdM
      · have hin : i = n := by omega
        subst hin
        rw [Nat.sub_self, parsF] at h4
        rw [h4]
        have hr := right_ref out (by omega)
        have ht : List.take out.length (out.map Pr.enc) = out.map Pr.enc := List.take_of_length_le (by simp)
        by_cases c3 : (a : Int) ≠ (s.length : Int)
        · have e1 : endF s (some (out, a)) = none := by simp only [endF]; rw [if_neg (by omega)]
          rw [e1]
          (simp (disch:=first|decide|omega|(intros;exact rfl)|(simp only[puri];done)) only [a12_0, a12, bne_iff_ne.2 c3, parseV, go_sem, seval, dis])
          try simp [trim]
        · have c3' : ((a : Int) != (s.length : Int)) = false := by simpa using c3
          cases hq : rightF out with
          | false =>
            have e1 : endF s (some (out, a)) = none := by simp only [endF, hq]; rw [if_neg (by simp)]
            rw [e1]
            rw [hq] at hr
            (simp (disch:=first|decide|omega|(intros;exact rfl)|(simp only[puri];done)) only [a12_0, a12, c3', hr, ht, parseV, go_sem, seval, dis])
            try simp [trim]
          | true =>
            have e1 : endF s (some (out, a)) = some out := by simp only [endF, hq]; rw [if_pos ⟨by omega, trivial⟩]
            rw [e1]
            rw [hq] at hr
            (simp (disch:=first|decide|omega|(intros;exact rfl)|(simp only[puri];done)) only [a12_0, a12, c3', hr, ht, parseV, go_sem, seval, dis])
            try simp [trim]
end Go.Proofs.YthlnpioogbmogaaGreat

namespace Go.Proofs.YthlnpioogbmogaaGreat
open Go.Vi
def stepF (l : List Pr) : List UInt8 → List Pr
  | [] => l
  | c :: r => l.takeWhile (fun p => decide (p.key < (c.toNat : Int))) ++ (if r = [] then [] else [⟨(c.toNat : Int), r⟩]) ++ l.filter (fun p => decide ((c.toNat : Int) < p.key))
theorem tw_at (P : Pr → Bool) (l : List Pr) (i : Nat) (h : i < l.length) : (l.drop i).takeWhile P = if P l[i] = true then l[i] :: (l.drop (i + 1)).takeWhile P else [] := by
  rw [List.drop_eq_getElem_cons h, List.takeWhile_cons]
theorem take_one (l : List Pr) (i : Nat) (h : i < l.length) : (l.take i).map Pr.enc ++ [l[i].enc] = (l.take (i + 1)).map Pr.enc := by
  rw [List.take_succ_eq_append_getElem h, List.map_append]; rfl
theorem filt_one (Q : Pr → Bool) (l : List Pr) (i : Nat) (h : i < l.length) : (l.take (i + 1)).filter Q = (l.take i).filter Q ++ (if Q l[i] = true then [l[i]] else []) := by
  rw [List.take_succ_eq_append_getElem h, List.filter_append]
  congr 1
  by_cases hq : Q l[i] = true <;> simp [hq]
theorem filt_len (Q : Pr → Bool) (l : List Pr) (i : Nat) : ((l.take i).filter Q).length ≤ l.length :=
  Nat.le_trans (List.length_filter_le _ _) (by simp; omega)
set_option maxRecDepth 4000 in
set_option maxHeartbeats 2000000 in
theorem step_ref (l : List Pr) (hl : l.length ≤ 1000000) (d : List UInt8) (hd : d.length ≤ 1000000) : call 17 [vl (l.map Pr.enc), vs d] [] = some (vl ((stepF l d).map Pr.enc), []) := by
  apply enterS s17 rfl
  have hok : okRows 2 (l.map Pr.enc) = true := okRows_map Pr.len _
  cases d with
  | nil =>
    have e0 : (([] : List UInt8) == []) = true := rfl
    have ht : List.take l.length (l.map Pr.enc) = l.map Pr.enc := List.take_of_length_le (by simp)
    (simp (disch:=first|decide|omega|(intros;exact rfl)|(simp only[puri];done)) only [a17, e0, hok, ht, go_sem, seval, dis])
    try simp [trim, stepF]
  | cons c r =>
    have e0 : ((c :: r) == ([] : List UInt8)) = false := rfl
    obtain ⟨Z, hZ⟩ : ∃ Z : V × Hp, Z = (vl ((stepF l (c :: r)).map Pr.enc), []) := ⟨_, rfl⟩
    rw [← hZ]
    have hc0 : (c :: r)[0]? = some c := rfl
    have hlr : (c :: r).length ≤ 1000000 := hd
    obtain ⟨dt, hD⟩ : ∃ dt, dt = c :: r := ⟨_, rfl⟩
    rw [← hD] at hc0 e0 hlr hZ ⊢
    (simp (disch:=first|decide|omega|(intros;exact rfl)|(simp only[puri];done)) only [a17, e0, go_sem, seval, dis])
    refine loop_boxM (m := 0) (σ := Nat) (fun i => l.length - i) (fun i => i ≤ l.length ∧ l.takeWhile (fun p => decide (p.key < (c.toNat : Int))) = l.take i ++ (l.drop i).takeWhile (fun p => decide (p.key < (c.toNat : Int)))) (fun i => [vl (l.map Pr.enc), vs dt, V.one (.sl 0 2 0 (l.take i).length), vi i]) (fun i => [.arr 2 ((l.take i).map Pr.enc) 0])
      (fun _ => Z) ?_ 0 ⟨Nat.zero_le _, by simp⟩ _ _ hdM
    intro i ⟨h1, h2⟩ R hR
    have key : l.takeWhile (fun p => decide (p.key < (c.toNat : Int))) = l.take i → Z = (vl ((l.take i ++ (if r = [] then [] else [(⟨(c.toNat : Int), r⟩ : Pr)]) ++ l.filter (fun (p : Pr) => decide ((c.toNat : Int) < p.key))).map Pr.enc), []) := by
      intro he
      rw [hZ, hD, stepF, he]
    have two : ∀ (i : Nat) (h : i < l.length), (l.map Pr.enc)[i]? = some l[i].enc := fun i h => by rw [List.getElem?_map, List.getElem?_eq_getElem h]; rfl
    have hlen : (l.take i).length = i := by simp; omega
    have go : (i < l.length → keyAt l i < (c.toNat : Int)) ∨ (i < l.length → ¬ keyAt l i < (c.toNat : Int)) := by
      by_cases h : keyAt l i < (c.toNat : Int)
      · exact .inl fun _ => h
      · exact .inr fun _ => h
    have kat : ∀ (i : Nat) (h : i < l.length), keyAt l i = l[i].key := fun i h => by
      have : l[i]? = some l[i] := List.getElem?_eq_getElem h
      simp [keyAt, this]
    by_cases hi : i < l.length ∧ keyAt l i < (c.toNat : Int)
    · obtain ⟨hi, c1⟩ := hi
      have g1 := two i hi
      rw [kat i hi] at c1
      rw [tw_at _ l i hi, if_pos (decide_eq_true c1)] at h2
      have ho := take_one l i hi
      have hl1 : (l.take i).length + 1 = (l.take (i + 1)).length := by simp; omega
      have h3 : l.takeWhile (fun p => decide (p.key < (c.toNat : Int))) = l.take (i + 1) ++ (l.drop (i + 1)).takeWhile (fun p => decide (p.key < (c.toNat : Int))) := by rw [h2, List.take_succ_eq_append_getElem hi, List.append_assoc]; rfl
      obtain ⟨p, hp⟩ : ∃ p, p = l[i] := ⟨_, rfl⟩
      rw [← hp] at g1 c1 ho
      have hb : (l.take i).length ≤ 1000000 := by omega
      obtain ⟨B, hB⟩ : ∃ B, B = l.take i := ⟨_, rfl⟩
      rw [← hB] at ho hl1 hb ⊢
      (simp (disch:=first|decide|omega|(intros;exact rfl)|(simp only[puri];done)) only [a17_0, g1, Pr.len, Pr.tk, Pr.tkL, Pr.at0, hc0, decide_eq_true c1, ho, hl1, go_sem, seval, dis])
      exact hR (i + 1) (by omega) ⟨by omega, h3⟩ _ _ hdM
    · have he : l.takeWhile (fun p => decide (p.key < (c.toNat : Int))) = l.take i := by
        rw [h2]
        by_cases hj : i < l.length
        · rw [tw_at _ l i hj, if_neg ?_, List.append_nil]
          intro hc
          exact hi ⟨hj, by rw [kat i hj]; simpa using hc⟩
        · rw [List.drop_eq_nil_of_le (by omega)]; simp
      have hz := key he
      have hb : (l.take i).length ≤ 1000000 := by omega
      clear key he h2 hR hlen
      obtain ⟨B, hB⟩ : ∃ B, B = l.take i := ⟨_, rfl⟩
      rw [← hB] at hz hb ⊢
      clear hB
      obtain ⟨B', hB', hm, hl2⟩ : ∃ B' : List Pr, B' = B ++ [⟨(c.toNat : Int), r⟩] ∧ B.map Pr.enc ++ [[.i .u8 (c.toNat : Int), .s r]] = B'.map Pr.enc ∧ B.length + 1 = B'.length := ⟨_, rfl, by simp [Pr.enc], by simp⟩
      have hdr : List.drop 1 dt = r := by rw [hD]; rfl
      have hdt : List.take dt.length dt = dt := List.take_length
      by_cases hr : r = []
      · have hdl : ¬ (1 : Int) < (dt.length : Int) := by rw [hD, hr]; simp
        rw [if_pos hr, List.append_nil] at hz
        clear hm hl2 hB' B'
        by_cases hj : i < l.length
        · have g1 := two i hj
          have c1 : ¬ l[i].key < (c.toNat : Int) := fun h => hi ⟨hj, by rw [kat i hj]; exact h⟩
          obtain ⟨p, hp⟩ : ∃ p, p = l[i] := ⟨_, rfl⟩
          rw [← hp] at g1 c1
          (simp (disch:=first|decide|omega|(intros;exact rfl)|(simp only[puri];done)) only [a17_0, a17, g1, Pr.len, Pr.tk, Pr.tkL, Pr.at0, hc0, decide_eq_false c1, decide_eq_false hdl, go_sem, seval, dis])
          refine loop_boxM (m := 0) (σ := Nat) (fun j => l.length - j) (fun j => j ≤ l.length) (fun j => [vl (l.map Pr.enc), vs dt, V.one (.sl 0 2 0 (B ++ (l.take j).filter (fun (p : Pr) => decide ((c.toNat : Int) < p.key))).length), vi j]) (fun j => [.arr 2 ((B ++ (l.take j).filter (fun (p : Pr) => decide ((c.toNat : Int) < p.key))).map Pr.enc) 0])
            (fun _ => Z) ?_ 0 (Nat.zero_le _) _ _ (at_head2 (by decide) (by simp only [List.map_cons, List.map_nil, go_sem, seval]; exact rfl) (by simp [idsOf, reach, place_cons, place_nil, canonH, V.ren, L.ren, Box.ren, V.refs, L.refs, Box.refs, List.append_nil]) (by simp [idsOf, reach, place_cons, place_nil, canonH, V.ren, L.ren, Box.ren, V.refs, L.refs, Box.refs, List.append_nil]))
          intro j h1 R hR
          by_cases hi : j < l.length
          · have g1 := two j hi
            have hf := filt_one (fun (p : Pr) => decide ((c.toNat : Int) < p.key)) l j hi
            have hfl := filt_len (fun (p : Pr) => decide ((c.toNat : Int) < p.key)) l j
            obtain ⟨p, hp⟩ : ∃ p, p = l[j] := ⟨_, rfl⟩
            rw [← hp] at g1 hf
            by_cases c2 : (c.toNat : Int) < p.key
            · rw [if_pos (decide_eq_true c2)] at hf
              have hR' := hR (j + 1) (by omega) (by omega)
              rw [hf] at hR'
              obtain ⟨C, hC⟩ : ∃ C, C = B ++ (l.take j).filter (fun (p : Pr) => decide ((c.toNat : Int) < p.key)) := ⟨_, rfl⟩
              have hcl : C.length ≤ 2000001 := by rw [hC, List.length_append]; omega
              rw [← List.append_assoc, ← hC] at hR'
              rw [← hC]
              obtain ⟨C', hC', hm1, hm2⟩ : ∃ C' : List Pr, C ++ [p] = C' ∧ C.map Pr.enc ++ [p.enc] = C'.map Pr.enc ∧ C.length + 1 = C'.length := ⟨_, rfl, by simp, by simp⟩
              rw [hC'] at hR'
              (simp (disch:=first|decide|omega|(intros;exact rfl)|(simp only[puri];done)) only [a17_1, g1, Pr.len, Pr.tk, Pr.tkL, Pr.at0, hc0, decide_eq_true c2, hm1, hm2, go_sem, seval, dis])
              exact hR' _ _ hdM
            · rw [if_neg (by simpa using c2), List.append_nil] at hf
              have hR' := hR (j + 1) (by omega) (by omega)
              rw [hf] at hR'
              generalize B ++ (l.take j).filter (fun (p : Pr) => decide ((c.toNat : Int) < p.key)) = C at hR' ⊢
              (simp (disch:=first|decide|omega|(intros;exact rfl)|(simp only[puri];done)) only [a17_1, g1, Pr.len, Pr.tk, Pr.tkL, Pr.at0, hc0, decide_eq_false c2, go_sem, seval, dis])
              exact hR' _ _ hdM
          · have hj2 : l.take j = l := List.take_of_length_le (by omega)
            rw [hj2]
            obtain ⟨C, hC⟩ : ∃ C, C = B ++ l.filter (fun (p : Pr) => decide ((c.toNat : Int) < p.key)) := ⟨_, rfl⟩
            rw [← hC] at hz ⊢
            rw [hz]
            have ht : List.take C.length (C.map Pr.enc) = C.map Pr.enc := List.take_of_length_le (by simp)
            (simp (disch:=first|decide|omega|(intros;exact rfl)|(simp only[puri];done)) only [a17_1, a17, ht, go_sem, seval, dis])
            try simp [trim]
        · (simp (disch:=first|decide|omega|(intros;exact rfl)|(simp only[puri];done)) only [a17_0, a17, decide_eq_false hdl, go_sem, seval, dis])
          refine loop_boxM (m := 0) (σ := Nat) (fun j => l.length - j) (fun j => j ≤ l.length) (fun j => [vl (l.map Pr.enc), vs dt, V.one (.sl 0 2 0 (B ++ (l.take j).filter (fun (p : Pr) => decide ((c.toNat : Int) < p.key))).length), vi j]) (fun j => [.arr 2 ((B ++ (l.take j).filter (fun (p : Pr) => decide ((c.toNat : Int) < p.key))).map Pr.enc) 0])
            (fun _ => Z) ?_ 0 (Nat.zero_le _) _ _ (at_head2 (by decide) (by simp only [List.map_cons, List.map_nil, go_sem, seval]; exact rfl) (by simp [idsOf, reach, place_cons, place_nil, canonH, V.ren, L.ren, Box.ren, V.refs, L.refs, Box.refs, List.append_nil]) (by simp [idsOf, reach, place_cons, place_nil, canonH, V.ren, L.ren, Box.ren, V.refs, L.refs, Box.refs, List.append_nil]))
          intro j h1 R hR
          by_cases hi : j < l.length
          · have g1 := two j hi
            have hf := filt_one (fun (p : Pr) => decide ((c.toNat : Int) < p.key)) l j hi
            have hfl := filt_len (fun (p : Pr) => decide ((c.toNat : Int) < p.key)) l j
            obtain ⟨p, hp⟩ : ∃ p, p = l[j] := ⟨_, rfl⟩
            rw [← hp] at g1 hf
            by_cases c2 : (c.toNat : Int) < p.key
            · rw [if_pos (decide_eq_true c2)] at hf
              have hR' := hR (j + 1) (by omega) (by omega)
              rw [hf] at hR'
              obtain ⟨C, hC⟩ : ∃ C, C = B ++ (l.take j).filter (fun (p : Pr) => decide ((c.toNat : Int) < p.key)) := ⟨_, rfl⟩
              have hcl : C.length ≤ 2000001 := by rw [hC, List.length_append]; omega
              rw [← List.append_assoc, ← hC] at hR'
              rw [← hC]
              obtain ⟨C', hC', hm1, hm2⟩ : ∃ C' : List Pr, C ++ [p] = C' ∧ C.map Pr.enc ++ [p.enc] = C'.map Pr.enc ∧ C.length + 1 = C'.length := ⟨_, rfl, by simp, by simp⟩
              rw [hC'] at hR'
              (simp (disch:=first|decide|omega|(intros;exact rfl)|(simp only[puri];done)) only [a17_1, g1, Pr.len, Pr.tk, Pr.tkL, Pr.at0, hc0, decide_eq_true c2, hm1, hm2, go_sem, seval, dis])
              exact hR' _ _ hdM
            · rw [if_neg (by simpa using c2), List.append_nil] at hf
              have hR' := hR (j + 1) (by omega) (by omega)
              rw [hf] at hR'
              generalize B ++ (l.take j).filter (fun (p : Pr) => decide ((c.toNat : Int) < p.key)) = C at hR' ⊢
              (simp (disch:=first|decide|omega|(intros;exact rfl)|(simp only[puri];done)) only [a17_1, g1, Pr.len, Pr.tk, Pr.tkL, Pr.at0, hc0, decide_eq_false c2, go_sem, seval, dis])
              exact hR' _ _ hdM
          · have hj2 : l.take j = l := List.take_of_length_le (by omega)
            rw [hj2]
            obtain ⟨C, hC⟩ : ∃ C, C = B ++ l.filter (fun (p : Pr) => decide ((c.toNat : Int) < p.key)) := ⟨_, rfl⟩
            rw [← hC] at hz ⊢
            rw [hz]
            have ht : List.take C.length (C.map Pr.enc) = C.map Pr.enc := List.take_of_length_le (by simp)
            (simp (disch:=first|decide|omega|(intros;exact rfl)|(simp only[puri];done)) only [a17_1, a17, ht, go_sem, seval, dis])
            try simp [trim]
      · have hdl : (1 : Int) < (dt.length : Int) := by
          rw [hD]; have := List.length_pos_iff.2 hr; simp; omega
        rw [if_neg hr, ← hB'] at hz
        have hb : B'.length ≤ 1000001 := by omega
        by_cases hj : i < l.length
        · have g1 := two i hj
          have c1 : ¬ l[i].key < (c.toNat : Int) := fun h => hi ⟨hj, by rw [kat i hj]; exact h⟩
          obtain ⟨p, hp⟩ : ∃ p, p = l[i] := ⟨_, rfl⟩
          rw [← hp] at g1 c1
          (simp (disch:=first|decide|omega|(intros;exact rfl)|(simp only[puri];done)) only [a17_0, a17, g1, Pr.len, Pr.tk, Pr.tkL, Pr.at0, hc0, hdt, hdr, decide_eq_false c1, decide_eq_true hdl, hm, hl2, go_sem, seval, dis])
          refine loop_boxM (m := 0) (σ := Nat) (fun j => l.length - j) (fun j => j ≤ l.length) (fun j => [vl (l.map Pr.enc), vs dt, V.one (.sl 0 2 0 (B' ++ (l.take j).filter (fun (p : Pr) => decide ((c.toNat : Int) < p.key))).length), vi j]) (fun j => [.arr 2 ((B' ++ (l.take j).filter (fun (p : Pr) => decide ((c.toNat : Int) < p.key))).map Pr.enc) 0])
            (fun _ => Z) ?_ 0 (Nat.zero_le _) _ _ (at_head2 (by decide) (by simp only [List.map_cons, List.map_nil, go_sem, seval]; exact rfl) (by simp [idsOf, reach, place_cons, place_nil, canonH, V.ren, L.ren, Box.ren, V.refs, L.refs, Box.refs, List.append_nil]) (by simp [idsOf, reach, place_cons, place_nil, canonH, V.ren, L.ren, Box.ren, V.refs, L.refs, Box.refs, List.append_nil]))
          intro j h1 R hR
          by_cases hi : j < l.length
          · have g1 := two j hi
            have hf := filt_one (fun (p : Pr) => decide ((c.toNat : Int) < p.key)) l j hi
            have hfl := filt_len (fun (p : Pr) => decide ((c.toNat : Int) < p.key)) l j
            obtain ⟨p, hp⟩ : ∃ p, p = l[j] := ⟨_, rfl⟩
            rw [← hp] at g1 hf
            by_cases c2 : (c.toNat : Int) < p.key
            · rw [if_pos (decide_eq_true c2)] at hf
              have hR' := hR (j + 1) (by omega) (by omega)
              rw [hf] at hR'
              obtain ⟨C, hC⟩ : ∃ C, C = B' ++ (l.take j).filter (fun (p : Pr) => decide ((c.toNat : Int) < p.key)) := ⟨_, rfl⟩
              have hcl : C.length ≤ 2000001 := by rw [hC, List.length_append]; omega
              rw [← List.append_assoc, ← hC] at hR'
              rw [← hC]
              obtain ⟨C', hC', hm1, hm2⟩ : ∃ C' : List Pr, C ++ [p] = C' ∧ C.map Pr.enc ++ [p.enc] = C'.map Pr.enc ∧ C.length + 1 = C'.length := ⟨_, rfl, by simp, by simp⟩
              rw [hC'] at hR'
              (simp (disch:=first|decide|omega|(intros;exact rfl)|(simp only[puri];done)) only [a17_1, g1, Pr.len, Pr.tk, Pr.tkL, Pr.at0, hc0, decide_eq_true c2, hm1, hm2, go_sem, seval, dis])
              exact hR' _ _ hdM
            · rw [if_neg (by simpa using c2), List.append_nil] at hf
              have hR' := hR (j + 1) (by omega) (by omega)
              rw [hf] at hR'
              generalize B' ++ (l.take j).filter (fun (p : Pr) => decide ((c.toNat : Int) < p.key)) = C at hR' ⊢
              (simp (disch:=first|decide|omega|(intros;exact rfl)|(simp only[puri];done)) only [a17_1, g1, Pr.len, Pr.tk, Pr.tkL, Pr.at0, hc0, decide_eq_false c2, go_sem, seval, dis])
              exact hR' _ _ hdM
          · have hj2 : l.take j = l := List.take_of_length_le (by omega)
            rw [hj2]
            obtain ⟨C, hC⟩ : ∃ C, C = B' ++ l.filter (fun (p : Pr) => decide ((c.toNat : Int) < p.key)) := ⟨_, rfl⟩
            rw [← hC] at hz ⊢
            rw [hz]
            have ht : List.take C.length (C.map Pr.enc) = C.map Pr.enc := List.take_of_length_le (by simp)
            (simp (disch:=first|decide|omega|(intros;exact rfl)|(simp only[puri];done)) only [a17_1, a17, ht, go_sem, seval, dis])
            try simp [trim]
        · (simp (disch:=first|decide|omega|(intros;exact rfl)|(simp only[puri];done)) only [a17_0, a17, hc0, hdt, hdr, decide_eq_true hdl, hm, hl2, go_sem, seval, dis])
          refine loop_boxM (m := 0) (σ := Nat) (fun j => l.length - j) (fun j => j ≤ l.length) (fun j => [vl (l.map Pr.enc), vs dt, V.one (.sl 0 2 0 (B' ++ (l.take j).filter (fun (p : Pr) => decide ((c.toNat : Int) < p.key))).length), vi j]) (fun j => [.arr 2 ((B' ++ (l.take j).filter (fun (p : Pr) => decide ((c.toNat : Int) < p.key))).map Pr.enc) 0])
            (fun _ => Z) ?_ 0 (Nat.zero_le _) _ _ (at_head2 (by decide) (by simp only [List.map_cons, List.map_nil, go_sem, seval]; exact rfl) (by simp [idsOf, reach, place_cons, place_nil, canonH, V.ren, L.ren, Box.ren, V.refs, L.refs, Box.refs, List.append_nil]) (by simp [idsOf, reach, place_cons, place_nil, canonH, V.ren, L.ren, Box.ren, V.refs, L.refs, Box.refs, List.append_nil]))
          intro j h1 R hR
          by_cases hi : j < l.length
          · have g1 := two j hi
            have hf := filt_one (fun (p : Pr) => decide ((c.toNat : Int) < p.key)) l j hi
            have hfl := filt_len (fun (p : Pr) => decide ((c.toNat : Int) < p.key)) l j
            obtain ⟨p, hp⟩ : ∃ p, p = l[j] := ⟨_, rfl⟩
            rw [← hp] at g1 hf
            by_cases c2 : (c.toNat : Int) < p.key
            · rw [if_pos (decide_eq_true c2)] at hf
              have hR' := hR (j + 1) (by omega) (by omega)
              rw [hf] at hR'
              obtain ⟨C, hC⟩ : ∃ C, C = B' ++ (l.take j).filter (fun (p : Pr) => decide ((c.toNat : Int) < p.key)) := ⟨_, rfl⟩
              have hcl : C.length ≤ 2000001 := by rw [hC, List.length_append]; omega
              rw [← List.append_assoc, ← hC] at hR'
              rw [← hC]
              obtain ⟨C', hC', hm1, hm2⟩ : ∃ C' : List Pr, C ++ [p] = C' ∧ C.map Pr.enc ++ [p.enc] = C'.map Pr.enc ∧ C.length + 1 = C'.length := ⟨_, rfl, by simp, by simp⟩
              rw [hC'] at hR'
              (simp (disch:=first|decide|omega|(intros;exact rfl)|(simp only[puri];done)) only [a17_1, g1, Pr.len, Pr.tk, Pr.tkL, Pr.at0, hc0, decide_eq_true c2, hm1, hm2, go_sem, seval, dis])
              exact hR' _ _ hdM
            · rw [if_neg (by simpa using c2), List.append_nil] at hf
              have hR' := hR (j + 1) (by omega) (by omega)
              rw [hf] at hR'
              generalize B' ++ (l.take j).filter (fun (p : Pr) => decide ((c.toNat : Int) < p.key)) = C at hR' ⊢
              (simp (disch:=first|decide|omega|(intros;exact rfl)|(simp only[puri];done)) only [a17_1, g1, Pr.len, Pr.tk, Pr.tkL, Pr.at0, hc0, decide_eq_false c2, go_sem, seval, dis])
              exact hR' _ _ hdM
          · have hj2 : l.take j = l := List.take_of_length_le (by omega)
            rw [hj2]
            obtain ⟨C, hC⟩ : ∃ C, C = B' ++ l.filter (fun (p : Pr) => decide ((c.toNat : Int) < p.key)) := ⟨_, rfl⟩
            rw [← hC] at hz ⊢
            rw [hz]
            have ht : List.take C.length (C.map Pr.enc) = C.map Pr.enc := List.take_of_length_le (by simp)
            (simp (disch:=first|decide|omega|(intros;exact rfl)|(simp only[puri];done)) only [a17_1, a17, ht, go_sem, seval, dis])
            try simp [trim]
end Go.Proofs.YthlnpioogbmogaaGreat

namespace Go.Proofs.YthlnpioogbmogaaGreat
open Go.Vi
def prB (p : Pr) : List UInt8 := UInt8.ofNat p.key.toNat :: (enc128 p.val.length ++ p.val)
def bytesF (l : List Pr) : List UInt8 := enc128 l.length ++ l.flatMap prB
set_option maxRecDepth 4000 in
set_option maxHeartbeats 2000000 in
theorem bytes_ref (l : List Pr) (hl : l.length ≤ 1000000) (hb : (bytesF l).length ≤ 1000000000) (hk : ∀ p ∈ l, 0 ≤ p.key ∧ p.key < 256) : call 68 [vl (l.map Pr.enc)] [] = some (vs (bytesF l), []) := by
  apply enterS s68 rfl
  have h0 := refPut_spec l.length (by omega)
  (simp (disch:=first|decide|omega|(intros;exact rfl)|(simp only[puri];done)) only [a68, h0, go_sem, seval, dis])
  refine loop_boxM (m := 0) (σ := Nat) (fun i => l.length - i) (fun i => i ≤ l.length) (fun i => [vl (l.map Pr.enc), vs (enc128 l.length ++ (l.take i).flatMap prB), vi i]) (fun _ => [])
    (fun _ => (vs (bytesF l), [])) ?_ 0 (Nat.zero_le _) _ _ (at_head2 (by decide) (by simp only [List.map_cons, List.map_nil, go_sem, seval]; exact rfl) (by simp [idsOf, reach, place_cons, place_nil, canonH, V.ren, L.ren, Box.ren, V.refs, L.refs, Box.refs, List.append_nil]) (by simp [idsOf, reach, place_cons, place_nil, canonH, V.ren, L.ren, Box.ren, V.refs, L.refs, Box.refs, List.append_nil]))
  intro i h1 R hR
  by_cases hi : i < l.length
  · have g1 : (l.map Pr.enc)[i]? = some l[i].enc := by rw [List.getElem?_map, List.getElem?_eq_getElem hi]; rfl
    have hnx : enc128 l.length ++ (l.take (i + 1)).flatMap prB = (enc128 l.length ++ (l.take i).flatMap prB) ++ prB l[i] := by
      rw [List.take_succ_eq_append_getElem hi, List.flatMap_append]; simp
    have hle : ((enc128 l.length ++ (l.take i).flatMap prB) ++ prB l[i]).length ≤ 1000000000 := by
      rw [← hnx]
      refine Nat.le_trans ?_ hb
      have e : l.flatMap prB = (l.take (i + 1)).flatMap prB ++ (l.drop (i + 1)).flatMap prB := by rw [← List.flatMap_append, List.take_append_drop]
      rw [bytesF, e]; simp; try omega
    have hR' := hR (i + 1) (by omega) (by omega)
    rw [hnx] at hR'
    obtain ⟨p, hp⟩ : ∃ p, p = l[i] := ⟨_, rfl⟩
    rw [← hp] at g1 hle hR'
    obtain ⟨S, hS⟩ : ∃ S, S = enc128 l.length ++ (l.take i).flatMap prB := ⟨_, rfl⟩
    rw [← hS] at hle hR' ⊢
    have hpb : (prB p).length = 1 + (enc128 p.val.length).length + p.val.length := by simp [prB]; omega
    rw [List.length_append] at hle
    have hput := refPut_spec p.val.length (by omega)
    have hbo : bytesOf [[.i .u8 p.key]] = some [UInt8.ofNat p.key.toNat] := rfl
    rw [show S ++ prB p = ((S ++ [UInt8.ofNat p.key.toNat]) ++ enc128 p.val.length) ++ p.val by simp [prB]] at hR'
    rw [hpb] at hle
    obtain ⟨E, hE⟩ : ∃ E, E = enc128 p.val.length := ⟨_, rfl⟩
    rw [← hE] at hR' hput hle
    have q1 : (S ++ [UInt8.ofNat p.key.toNat]).length = S.length + 1 := by simp
    have q2 : ((S ++ [UInt8.ofNat p.key.toNat]) ++ E).length = S.length + 1 + E.length := by simp; omega
    obtain ⟨S1, hS1⟩ : ∃ S1, S1 = S ++ [UInt8.ofNat p.key.toNat] := ⟨_, rfl⟩
    rw [← hS1] at q1 q2 hR'
    obtain ⟨S2, hS2⟩ : ∃ S2, S2 = S1 ++ E := ⟨_, rfl⟩
    rw [← hS2] at q2 hR'
    (simp (disch:=first|decide|omega|(intros;exact rfl)|(simp only[puri];done)) only [a68_0, g1, Pr.len, Pr.tk, Pr.tkL, Pr.at0, Pr.at1, hbo, hput, ← hS1, ← hS2, go_sem, seval, dis, vdr, A.kind, A.xs, optX])
    exact hR' _ _ hdM
  · have ht : l.take i = l := List.take_of_length_le (by omega)
    rw [ht]
    (simp (disch:=first|decide|omega|(intros;exact rfl)|(simp only[puri];done)) only [a68_0, a68, go_sem, seval, dis, vdr, A.kind, A.xs, optX])
    try simp [trim, bytesF]
end Go.Proofs.YthlnpioogbmogaaGreat

namespace Go.Proofs.YthlnpioogbmogaaGreat
open Go.Vi
def sumF (f : Seg → Int) : List Seg → Int
  | [] => 0
  | g :: r => f g + sumF f r
theorem sum_app (f : Seg → Int) (a b : List Seg) : sumF f (a ++ b) = sumF f a + sumF f b := by
  induction a with
  | nil => simp [sumF]
  | cons x r ih => simp only [List.cons_append, sumF, ih]; omega
theorem sum_take (f : Seg → Int) (l : List Seg) (i : Nat) (h : i < l.length) : sumF f (l.take (i + 1)) = sumF f (l.take i) + f l[i] := by
  rw [List.take_succ_eq_append_getElem h, sum_app]; simp [sumF]
theorem sum_le (f : Seg → Int) (u : Nat) : ∀ (l : List Seg), (∀ g ∈ l, 0 ≤ f g ∧ f g ≤ u) → 0 ≤ sumF f l ∧ sumF f l ≤ l.length * u
  | [], _ => by simp [sumF]
  | x :: r, h => by
    have h1 := h x (by simp)
    have h2 := sum_le f u r (fun g hg => h g (by simp [hg]))
    simp only [sumF, List.length_cons]
    rw [Int.natCast_add, Int.add_mul]
    omega
theorem sum_lt (f : Seg → Int) (l : List Seg) (hl : l.length ≤ 1000) (h : ∀ g ∈ l, 0 ≤ f g ∧ f g ≤ (1000000000000 : Nat)) (i : Nat) : 0 ≤ sumF f (l.take i) ∧ sumF f (l.take i) ≤ 1000000000000000 := by
  have := sum_le f 1000000000000 (l.take i) (fun g hg => h g (List.mem_of_mem_take hg))
  have h2 : (l.take i).length ≤ 1000 := Nat.le_trans (List.length_take_le' _ _) hl
  have h3 : ((l.take i).length : Int) * ((1000000000000 : Nat) : Int) ≤ 1000 * 1000000000000 := by omega
  omega
theorem rbytes_spec (l : List Seg) (hl : l.length ≤ 1000) (h : ∀ g ∈ l, 0 ≤ g.size ∧ g.size ≤ (1000000000000 : Nat)) : call 126 [vl (l.map Seg.enc)] [] = some (vi (sumF Seg.size l), []) := by
  apply enterS s126 rfl
  (simp (disch:=first|decide|omega|(intros;exact rfl)|(simp only[puri];done)) only [a126, go_sem, seval, dis])
  refine loop_boxM (m := 0) (σ := Nat) (fun i => l.length - i) (fun i => i ≤ l.length) (fun i => [vl (l.map Seg.enc), vi (sumF Seg.size (l.take i)), vi i]) (fun _ => [])
    (fun _ => (vi (sumF Seg.size l), [])) ?_ 0 (Nat.zero_le _) _ _ hdM
  intro i h1 R hR
  have hb := sum_lt Seg.size l hl h i
  by_cases hi : i < l.length
  · have g1 : (l.map Seg.enc)[i]? = some l[i].enc := by rw [List.getElem?_map, List.getElem?_eq_getElem hi]; rfl
    have hR' := hR (i + 1) (by omega) (by omega)
    rw [sum_take _ l i hi] at hR'
    have hg := h l[i] (List.getElem_mem hi)
    obtain ⟨p, hp⟩ : ∃ p, p = l[i] := ⟨_, rfl⟩
    rw [← hp] at g1 hR' hg
    generalize sumF Seg.size (l.take i) = x at *
    (simp (disch:=first|decide|omega|(intros;exact rfl)|(simp only[puri];done)) only [a126_0, g1, Seg.enc, go_sem, seval, dis])
    exact hR' _ _ hdM
  · have ht : l.take i = l := List.take_of_length_le (by omega)
    rw [ht]
    (simp (disch:=first|decide|omega|(intros;exact rfl)|(simp only[puri];done)) only [a126_0, a126, go_sem, seval, dis])
    try simp [trim]
theorem rrecords_spec (l : List Seg) (hl : l.length ≤ 1000) (h : ∀ g ∈ l, 0 ≤ g.n ∧ g.n ≤ (1000000000000 : Nat)) : call 127 [vl (l.map Seg.enc)] [] = some (vi (sumF Seg.n l), []) := by
  apply enterS s127 rfl
  (simp (disch:=first|decide|omega|(intros;exact rfl)|(simp only[puri];done)) only [a127, go_sem, seval, dis])
  refine loop_boxM (m := 0) (σ := Nat) (fun i => l.length - i) (fun i => i ≤ l.length) (fun i => [vl (l.map Seg.enc), vi (sumF Seg.n (l.take i)), vi i]) (fun _ => [])
    (fun _ => (vi (sumF Seg.n l), [])) ?_ 0 (Nat.zero_le _) _ _ hdM
  intro i h1 R hR
  have hb := sum_lt Seg.n l hl h i
  by_cases hi : i < l.length
  · have g1 : (l.map Seg.enc)[i]? = some l[i].enc := by rw [List.getElem?_map, List.getElem?_eq_getElem hi]; rfl
    have hR' := hR (i + 1) (by omega) (by omega)
    rw [sum_take _ l i hi] at hR'
    have hg := h l[i] (List.getElem_mem hi)
    obtain ⟨p, hp⟩ : ∃ p, p = l[i] := ⟨_, rfl⟩
    rw [← hp] at g1 hR' hg
    generalize sumF Seg.n (l.take i) = x at *
    (simp (disch:=first|decide|omega|(intros;exact rfl)|(simp only[puri];done)) only [a127_0, g1, Seg.enc, go_sem, seval, dis])
    exact hR' _ _ hdM
  · have ht : l.take i = l := List.take_of_length_le (by omega)
    rw [ht]
    (simp (disch:=first|decide|omega|(intros;exact rfl)|(simp only[puri];done)) only [a127_0, a127, go_sem, seval, dis])
    try simp [trim]
def muchF (l : List Seg) (keep count : Int) : Bool := decide (1 < l.length) && (decide (keep < sumF Seg.size (l.take (l.length - 1))) || decide (count < sumF Seg.n l))
def segsB (l : List Seg) : Prop := l.length ≤ 1000 ∧ ∀ g ∈ l, (0 ≤ g.n ∧ g.n ≤ (1000000000000 : Nat)) ∧ (0 ≤ g.size ∧ g.size ≤ (1000000000000 : Nat))
theorem segsB.take {l : List Seg} (h : segsB l) (k : Nat) : segsB (l.take k) := ⟨Nat.le_trans (List.length_take_le' _ _) h.1, fun g hg => h.2 g (List.mem_of_mem_take hg)⟩
theorem segsB.drop {l : List Seg} (h : segsB l) (k : Nat) : segsB (l.drop k) := ⟨Nat.le_trans (by simp) h.1, fun g hg => h.2 g (List.mem_of_mem_drop hg)⟩
theorem much_spec (l : List Seg) (h : segsB l) (keep count : Int) : call 104 [vl (l.map Seg.enc), vi keep, vi count] [] = some (vb (muchF l keep count), []) := by
  apply enterS s104 rfl
  have hlen := h.1
  by_cases c1 : (1 : Int) < (l.length : Int)
  · have h1 := rbytes_spec (l.take (l.length - 1)) (h.take _).1 (fun g hg => ((h.take _).2 g hg).2)
    have h2 := rrecords_spec l h.1 (fun g hg => (h.2 g hg).1)
    have ek : ((l.length : Int) - 1).toNat = l.length - 1 := by omega
    have el : List.take (l.length - 1) (l.map Seg.enc) = (l.take (l.length - 1)).map Seg.enc := by rw [List.map_take]
    have hok : okRows 3 (l.map Seg.enc) = true := okRows_map Seg.len _
    by_cases c2 : keep < sumF Seg.size (l.take (l.length - 1))
    · have e : muchF l keep count = true := by simp [muchF, c2]; omega
      rw [e]
      (simp (disch:=first|decide|omega|(intros;exact rfl)|(simp only[puri];done)) only [a104, decide_eq_true c1, ek, el, hok, h1, decide_eq_true c2, go_sem, seval, dis])
      try simp [trim]
    · have e : muchF l keep count = decide (count < sumF Seg.n l) := by simp [muchF, c2]; omega
      rw [e]
      (simp (disch:=first|decide|omega|(intros;exact rfl)|(simp only[puri];done)) only [a104, decide_eq_true c1, ek, el, hok, h1, h2, decide_eq_false c2, go_sem, seval, dis])
      try simp [trim]
  · have e : muchF l keep count = false := by simp [muchF]; omega
    rw [e]
    (simp (disch:=first|decide|omega|(intros;exact rfl)|(simp only[puri];done)) only [a104, decide_eq_false c1, go_sem, seval, dis])
    try simp [trim]
def stayF (l : List Seg) (keep count : Int) (k : Nat) : Bool := !muchF (l.drop k) keep count
def pickF (l : List Seg) (keep count : Int) : Nat := match (List.range l.length).find? (stayF l keep count) with | some k => k | none => 0
theorem pickF_lt (l : List Seg) (keep count : Int) (h : pickF l keep count ≠ 0) : pickF l keep count < l.length := by
  unfold pickF at *
  cases hf : (List.range l.length).find? (stayF l keep count) with
  | none => rw [hf] at h; exact absurd rfl h
  | some k => simpa using List.mem_of_find?_eq_some hf
theorem pick_spec (l : List Seg) (h : segsB l) (keep count : Int) : call 67 [vl (l.map Seg.enc), vi keep, vi count] [] = some (vi (pickF l keep count : Nat), []) := by
  apply enterS s67 rfl
  have hlen := h.1
  have hok : okRows 3 (l.map Seg.enc) = true := okRows_map Seg.len _
  (simp (disch:=first|decide|omega|(intros;exact rfl)|(simp only[puri];done)) only [a67, go_sem, seval, dis])
  refine loop_boxM (m := 0) (σ := Nat) (fun i => l.length - i) (fun i => i ≤ l.length ∧ (List.range l.length).find? (stayF l keep count) = ((List.range l.length).drop i).find? (stayF l keep count)) (fun i => [vl (l.map Seg.enc), vi keep, vi count, vi i]) (fun _ => [])
    (fun _ => (vi (pickF l keep count : Nat), [])) ?_ 0 ⟨Nat.zero_le _, rfl⟩ _ _ hdM
  intro i ⟨h1, h2⟩ R hR
  by_cases hi : i < l.length
  · rw [List.drop_eq_getElem_cons (by simpa using hi), List.find?_cons, List.getElem_range] at h2
    have hm := much_spec (l.drop i) (h.drop i) keep count
    have hd : List.drop i (l.map Seg.enc) = (l.drop i).map Seg.enc := by rw [List.map_drop]
    have htk : List.take l.length (l.map Seg.enc) = l.map Seg.enc := List.take_of_length_le (by simp)
    cases hq : muchF (l.drop i) keep count with
    | true =>
      have hs : stayF l keep count i = false := by simp [stayF, hq]
      rw [hs] at h2
      rw [hq] at hm
      (simp (disch:=first|decide|omega|(intros;exact rfl)|(simp only[puri];done)) only [a67_0, hok, htk, hd, hm, go_sem, seval, dis])
      exact hR (i + 1) (by omega) ⟨by omega, h2⟩ _ _ hdM
    | false =>
      have hs : stayF l keep count i = true := by simp [stayF, hq]
      rw [hs] at h2
      have e : pickF l keep count = i := by unfold pickF; rw [h2]
      rw [hq] at hm
      rw [e]
      (simp (disch:=first|decide|omega|(intros;exact rfl)|(simp only[puri];done)) only [a67_0, hok, htk, hd, hm, go_sem, seval, dis])
      try simp [trim]
  · rw [List.drop_eq_nil_of_le (by simpa using Nat.not_lt.1 hi)] at h2
    have e : pickF l keep count = 0 := by unfold pickF; rw [h2]; rfl
    rw [e]
    (simp (disch:=first|decide|omega|(intros;exact rfl)|(simp only[puri];done)) only [a67_0, a67, go_sem, seval, dis])
    try simp [trim]
end Go.Proofs.YthlnpioogbmogaaGreat

namespace Go.Proofs.YthlnpioogbmogaaGreat
open Go.Vi
def Sto.scans (s : Sto) : List SR := s.segs.map fun g => (g, (scanS (s.txt g) g.base).1.map (·.1))
theorem scans_len {k u : Nat} {s : Sto} (h : okS k u s) (hu : u ≤ 1000000) : ∀ p ∈ s.scans, p.2.length ≤ 1000000 := by
  intro p hp
  simp only [Sto.scans, List.mem_map] at hp
  obtain ⟨g, hg, rfl⟩ := hp
  rw [List.length_map]
  exact Nat.le_trans (scanS_len _ _) (Nat.le_trans (readF_len _ _) (Nat.le_trans h.dsk.used hu))
def rgetT (s : Sto) (off : Int) : V := if off < 0 ∨ s.next ≤ off then .tup [(true, [.d (.i .i64 0), .d (.i .i64 0), .d (.s [])]), (false, [.d (.i .i64 6)])] else seekV (recsM s.scans) off
set_option maxRecDepth 8000 in
theorem rread_any {k u : Nat} (s : Sto) (h : okS k u s) (hk : k ≤ 800000) (hu : u ≤ 1000000) (off : Int) : call 13 [.agg s.l, vi off] [] = some (rgetT s off, []) := by
  have hall := fun g hg => all_spec s h hk hu g hg
  have n1 : s.segs = s.scans.map (·.1) := by rw [Sto.scans, List.map_map]; exact (List.map_id s.segs).symm
  have n3 : ∀ p ∈ s.scans, ((scanS (s.txt p.1) p.1.base).1.map fun x => x.1.enc) = p.2.map Rec.enc := by
    intro p hp
    simp only [Sto.scans, List.mem_map] at hp
    obtain ⟨g, hg, rfl⟩ := hp
    simp
  have hlen := h.len
  have hcell : s.l = [.d (.l (s.disk.files.map Fil.enc)), .d (.i .i64 s.disk.cap), .d (.b s.disk.armed), .d (.i .i64 s.disk.left), .d (.b s.disk.down), .d (.i .i64 s.ver), .d (.l (s.segs.map Seg.enc)), .d (.i .i64 s.next), .d (.i .i64 s.sure), .d (.i .i64 s.size), .d (.i .u32 s.sum)] := rfl
  apply enterS s13 rfl
  rw [hcell] at hall ⊢
  by_cases c1 : off < 0
  · have e : rgetT s off = .tup [(true, [.d (.i .i64 0), .d (.i .i64 0), .d (.s [])]), (false, [.d (.i .i64 6)])] := by unfold rgetT; rw [if_pos (.inl c1)]
    rw [e]
    (simp (disch:=first|decide|omega|(intros;exact rfl)|(simp only[puri];done)) only [wkf, a13, c1, go_sem, seval, dis])
    try simp [trim]
  · by_cases c2 : s.next ≤ off
    · have e : rgetT s off = .tup [(true, [.d (.i .i64 0), .d (.i .i64 0), .d (.s [])]), (false, [.d (.i .i64 6)])] := by unfold rgetT; rw [if_pos (.inr c2)]
      rw [e]
      (simp (disch:=first|decide|omega|(intros;exact rfl)|(simp only[puri];done)) only [wkf, a13, c1, c2, go_sem, seval, dis])
      try simp [trim]
    · have e : rgetT s off = seekV (recsM s.scans) off := by unfold rgetT; rw [if_neg (by omega)]
      rw [e]
      obtain ⟨R, n2⟩ : ∃ R, recsM s.scans = R := ⟨_, rfl⟩
      rw [n2]
      have hsc := scans_len h hu
      obtain ⟨N, hN⟩ : ∃ N, N = s.scans := ⟨_, rfl⟩
      rw [← hN] at n1 n2 n3 hsc
      obtain ⟨Z, hZ⟩ : ∃ Z : V, Z = seekV R off := ⟨_, rfl⟩
      rw [← hZ]
      (simp (disch:=first|decide|omega|(intros;exact rfl)|(simp only[puri];done)) only [wkf, a13, c1, c2, go_sem, seval, dis])
      have hNl : N.length = s.segs.length := by rw [n1]; simp
      refine loop_boxM (m := 0) (σ := Nat) (fun i => N.length - i) (fun i => i ≤ N.length ∧ seekV R off = seekV (recsM (N.drop i)) off) (fun i => [vi off, V.one (.p 0 0), V.one (.p 1 0), vi i])
        (fun _ => [.cells [.d (.l (s.disk.files.map Fil.enc)), .d (.i .i64 s.disk.cap), .d (.b s.disk.armed), .d (.i .i64 s.disk.left), .d (.b s.disk.down), .d (.i .i64 s.ver), .d (.l (s.segs.map Seg.enc)), .d (.i .i64 s.next), .d (.i .i64 s.sure), .d (.i .i64 s.size), .d (.i .u32 s.sum)], .cells [.d (.i .i64 0), .d (.i .i64 0), .d (.s [])]]) (fun _ => (Z, [])) ?_ 0 ⟨Nat.zero_le _, by rw [List.drop_zero, n2]⟩ _ _ ?_
      rotate_left
      · exact hdM
      rintro i ⟨hi, hinv⟩ K hK
      by_cases c3 : i < N.length
      · have ci : (i : Int) < (s.segs.length : Int) := by omega
        have hsi : s.segs[i]? = some N[i].1 := by rw [n1]; simp [c3]
        have hmem : N[i].1 ∈ s.segs := List.mem_of_getElem? hsi
        have g1 : (s.segs.map Seg.enc)[i]? = some N[i].1.enc := by rw [List.getElem?_map, hsi]; rfl
        have g2 := hall _ hmem
        rw [n3 _ (List.getElem_mem c3)] at g2
        rw [recs_cons N i c3] at hinv
        have hpl : N[i].2.length ≤ 1000000 := hsc _ (List.getElem_mem c3)
        generalize N[i] = p at *
        obtain ⟨⟨pb, pn, pz⟩, pl⟩ := p
        simp only [Seg.enc, List.map_cons, List.map_nil] at g1 g2 hinv hpl
        (simp (disch:=first|decide|omega|(intros;exact rfl)|(simp only[puri];done)) only [wkf, a13_0, ci, g1, g2, go_sem, seval, dis])
        refine loop_boxM (m := 0) (σ := Nat) (fun j => pl.length - j) (fun j => j ≤ pl.length ∧ seekV R off = seekV (pl.drop j ++ recsM (N.drop (i + 1))) off) (fun j => [vi off, V.one (.p 0 0), V.one (.p 1 0), vi i, vl (pl.map Rec.enc), vi j])
          (fun _ => [.cells [.d (.l (s.disk.files.map Fil.enc)), .d (.i .i64 s.disk.cap), .d (.b s.disk.armed), .d (.i .i64 s.disk.left), .d (.b s.disk.down), .d (.i .i64 s.ver), .d (.l (s.segs.map Seg.enc)), .d (.i .i64 s.next), .d (.i .i64 s.sure), .d (.i .i64 s.size), .d (.i .u32 s.sum)], .cells [.d (.i .i64 0), .d (.i .i64 0), .d (.s [])]]) (fun _ => (Z, [])) ?_ 0 ⟨Nat.zero_le _, hinv⟩ _ _ ?_
        rotate_left
        · exact hdM
        rintro j ⟨hj, hinv2⟩ K2 hK2
        by_cases c4 : j < pl.length
        · have cj : (j : Int) < (pl.length : Int) := by omega
          have g3 : (pl.map Rec.enc)[j]? = some pl[j].enc := by simp [c4]
          rw [List.drop_eq_getElem_cons c4, List.cons_append] at hinv2
          generalize pl[j] = r at *
          by_cases c5 : r.at_ = off
          · rw [seek_yes c5] at hinv2
            rw [hinv2] at hZ
            obtain ⟨ra, rt, rd⟩ := r
            simp only [Rec.enc, List.map_cons, List.map_nil] at g3 c5 hZ
            (simp (disch:=first|decide|omega|(intros;exact rfl)|(simp only[puri];done)) only [wkf, a13_1, cj, g3, c5, go_sem, seval, dis])
            rw [hZ]
            try simp [trim, c5]
          · rw [seek_no c5] at hinv2
            obtain ⟨ra, rt, rd⟩ := r
            simp only [Rec.enc, List.map_cons, List.map_nil] at g3 c5
            (simp (disch:=first|decide|omega|(intros;exact rfl)|(simp only[puri];done)) only [wkf, a13_1, cj, g3, c5, go_sem, seval, dis])
            exact hK2 (j + 1) (by omega) ⟨by omega, hinv2⟩ _ _ hdM
        · have cj : ¬ (j : Int) < (pl.length : Int) := by omega
          rw [List.drop_of_length_le (by omega), List.nil_append] at hinv2
          (simp (disch:=first|decide|omega|(intros;exact rfl)|(simp only[puri];done)) only [wkf, a13_1, cj, go_sem, seval, dis])
          exact hK (i + 1) (by omega) ⟨by omega, hinv2⟩ _ _ hdM
      · have ci : ¬ (i : Int) < (s.segs.length : Int) := by omega
        rw [List.drop_of_length_le (by omega)] at hinv
        have e : seekV (recsM []) off = .tup [(true, [.d (.i .i64 0), .d (.i .i64 0), .d (.s [])]), (false, [.d (.i .i64 11)])] := rfl
        rw [e] at hinv
        rw [hinv] at hZ
        (simp (disch:=first|decide|omega|(intros;exact rfl)|(simp only[puri];done)) only [wkf, a13_0, ci, go_sem, seval, dis])
        rw [hZ]
        try simp [trim]
end Go.Proofs.YthlnpioogbmogaaGreat

namespace Go.Proofs.YthlnpioogbmogaaGreat
open Go.Vi
def snapN (n : Int) : Txt := nameF 116 n.toNat
theorem snap_int {n : Int} (h : 0 ≤ n ∧ n ≤ 1099511627776) : call 28 [vi n] [] = some (vs (snapN n), []) := by
  apply enterS s28 rfl
  have h1 := name_spec 116 n.toNat (by omega)
  have e : (((116 : UInt8).toNat : Nat) : Int) = 116 := rfl
  have e2 : ((n.toNat : Nat) : Int) = n := by omega
  rw [e, e2] at h1
  have e3 : snapN n = nameF 116 n.toNat := rfl
  rw [e3]
  (simp (disch:=first|decide|omega|(intros;exact rfl)|(simp only[puri];done)) only [a28, h1, go_sem, seval, dis])
  try simp [trim]
theorem rsnap_int {n : Int} (h : 0 ≤ n ∧ n ≤ 1099511627776) : call 49 [vi n] [] = some (vs (snapN n), []) := by
  have h1 := digits_spec n.toNat (by omega)
  have e : ((n.toNat : Nat) : Int) = n := by omega
  rw [e] at h1
  have e2 : snapN n = 116 :: tailN n.toNat 13 := by
    unfold snapN nameF tailN
    congr 1
  have hl : (tailN n.toNat 13).length = 13 := by simp [tailN]
  rw [e2]
  generalize tailN n.toNat 13 = T at *
  have c1 : ¬ n < 0 := by omega
  have c2 : ¬ (1099511627776 : Int) < n := by omega
  apply enterS s49 rfl
  (simp (disch:=first|decide|omega|(intros;exact rfl)|(simp only[puri];done)) only [a49, c1, c2, h1, hl, go_sem, seval, dis])
  try simp [trim]
theorem floor_ok {k u : Nat} {s : Sto} (h : okS k u s) : 0 ≤ s.floor ∧ s.floor ≤ 1099511627776 := by
  have := h.len
  unfold Sto.floor
  split
  · omega
  · rename_i g r he
    exact (h.seg g (by rw [he]; simp)).1
def snapT (s : Sto) : Txt := if s.floor = 0 then [] else (readF s.disk.files (snapN s.floor)).1
theorem rsnap_sto {k u : Nat} (s : Sto) (h : okS k u s) (hk : k ≤ 800000) : call 25 [.agg s.l] [] = some (vs (snapT s), []) := by
  have hf := rfloor_spec s
  have hn := rsnap_int (floor_ok h)
  have hr := rread_spec s.disk (Nat.le_trans h.dsk.len (by omega)) h.dsk.srt (snapN s.floor)
  have e : snapT s = if s.floor = 0 then [] else (readF s.disk.files (snapN s.floor)).1 := rfl
  rw [e]
  generalize s.floor = fl at *
  generalize snapN fl = N at *
  generalize readF s.disk.files N = rf at *
  have hcell : s.l = [.d (.l (s.disk.files.map Fil.enc)), .d (.i .i64 s.disk.cap), .d (.b s.disk.armed), .d (.i .i64 s.disk.left), .d (.b s.disk.down), .d (.i .i64 s.ver), .d (.l (s.segs.map Seg.enc)), .d (.i .i64 s.next), .d (.i .i64 s.sure), .d (.i .i64 s.size), .d (.i .u32 s.sum)] := rfl
  have hd : s.disk.l = [.d (.l (s.disk.files.map Fil.enc)), .d (.i .i64 s.disk.cap), .d (.b s.disk.armed), .d (.i .i64 s.disk.left), .d (.b s.disk.down)] := rfl
  apply enterS s25 rfl
  rw [hcell] at hf ⊢
  rw [hd] at hr
  by_cases c : fl = 0
  · rw [if_pos c]
    (simp (disch:=first|decide|omega|(intros;exact rfl)|(simp only[puri];done)) only [wkf, a25, hf, c, go_sem, seval, dis])
    try simp [trim]
  · rw [if_neg c]
    have c' : (fl == 0) = false := by simpa using c
    (simp (disch:=first|decide|omega|(intros;exact rfl)|(simp only[puri];done)) only [wkf, a25, hf, hn, hr, c', go_sem, seval, dis])
    try simp [trim]
end Go.Proofs.YthlnpioogbmogaaGreat

namespace Go.Proofs.YthlnpioogbmogaaGreat
open Go.Vi
theorem getR_why (t : List UInt8) (h : (getR t).2 = 0) : whyF (getR t).1 = 0 := by
  unfold getR at *
  split at h
  · exact absurd h (by decide)
  · split at h
    · exact absurd h (by decide)
    · rename_i n k _ _ m j _
      by_cases c : whyF ⟨n, m, t.drop (k + j)⟩ = 0
      · simp only [if_pos c]; exact c
      · simp only [if_neg c] at h; exact absurd h c
theorem places_why (s : List UInt8) : ∀ (f a : Nat) (b : Int), ∀ x ∈ (placesF f s a b).1, whyF x.1 = 0
  | 0, a, b, x, hx => by simp [placesF] at hx
  | f + 1, a, b, x, hx => by
    by_cases ha : a < s.length
    · obtain ⟨⟨t, n, e⟩, hn⟩ : ∃ y, nextF s a = y := ⟨_, rfl⟩
      by_cases he : e = 0
      · subst he
        by_cases hg : (getR t).2 = 0
        · by_cases hb : (getR t).1.at_ = b
          · rw [placesF_step ha hn hg hb] at hx
            rcases List.mem_cons.1 hx with rfl | hx
            · exact getR_why t hg
            · exact places_why s f n (b + 1) x hx
          · rw [placesF_off ha hn hg hb] at hx; cases hx
        · rw [placesF_bad ha hn hg] at hx; cases hx
      · rw [placesF_stop ha hn he] at hx; cases hx
    · rw [placesF_end (Nat.not_lt.1 ha)] at hx; cases hx
theorem scan_why (s : List UInt8) (b : Int) : ∀ x ∈ (scanS s b).1, whyF x.1 = 0 := by
  intro x hx
  unfold scanS at hx
  split at hx
  · exact places_why s _ _ _ x hx
  · cases hx
theorem why_len {r : Rec} (h : whyF r = 0) : r.da.length ≤ 64 := by
  unfold whyF at h
  split at h
  · split at h
    · assumption
    · exact absurd h (by decide)
  · exact absurd h (by decide)
def dataT (s : Sto) (off : Int) : List UInt8 := if off < 0 ∨ s.next ≤ off then [] else match (recsM s.scans).find? (fun r => decide (r.at_ = off)) with
  | some r => r.da
  | none => []
theorem rget_eq (s : Sto) (off : Int) : ∃ a b e, rgetT s off = .tup [(true, [.d (.i .i64 a), .d (.i .i64 b), .d (.s (dataT s off))]), (false, [.d (.i .i64 e)])] := by
  unfold rgetT dataT
  split
  · exact ⟨_, _, _, rfl⟩
  · unfold seekV
    cases (recsM s.scans).find? (fun r => decide (r.at_ = off)) with
    | none => exact ⟨_, _, _, rfl⟩
    | some r => exact ⟨r.at_, r.ti, 0, rfl⟩
theorem data_len (s : Sto) (off : Int) : (dataT s off).length ≤ 64 := by
  unfold dataT
  split
  · simp
  · cases hf : (recsM s.scans).find? (fun r => decide (r.at_ = off)) with
    | none => simp
    | some r =>
      have hm := List.mem_of_find?_eq_some hf
      simp only [recsM, Sto.scans, List.flatMap_map, List.mem_flatMap, List.mem_map] at hm
      obtain ⟨g, _, x, hx, rfl⟩ := hm
      exact why_len (scan_why _ _ x hx)
theorem tw_filt (P Q : Pr → Bool) (h : ∀ p, P p = true → Q p = false) : ∀ l : List Pr, (l.takeWhile P).length + (l.filter Q).length ≤ l.length
  | [] => by simp
  | x :: r => by
    rw [List.takeWhile_cons, List.filter_cons]
    by_cases hp : P x = true
    · have hq := h x hp
      have := tw_filt P Q h r
      simp [hp, hq]; omega
    · have h2 : (r.filter Q).length ≤ r.length := List.length_filter_le _ _
      rw [if_neg hp]
      by_cases hq : Q x = true <;> simp [hq] <;> omega
theorem step_len (l : List Pr) (d : List UInt8) : (stepF l d).length ≤ l.length + 1 := by
  cases d with
  | nil => simp [stepF]
  | cons c r =>
    have h1 := tw_filt (fun p => decide (p.key < (c.toNat : Int))) (fun p => decide ((c.toNat : Int) < p.key)) (fun p hp => by simp at hp ⊢; omega) l
    simp only [stepF, List.length_append]
    split <;> simp at h1 ⊢ <;> omega
def okP (l : List Pr) : Prop := ∀ p ∈ l, (0 ≤ p.key ∧ p.key < 256) ∧ p.val.length ≤ 64
theorem step_ok {l : List Pr} (h : okP l) {d : List UInt8} (hd : d.length ≤ 64) : okP (stepF l d) := by
  cases d with
  | nil => exact h
  | cons c r =>
    intro p hp
    simp only [stepF, List.mem_append] at hp
    rcases hp with (hp | hp) | hp
    · exact h p ((List.takeWhile_sublist _).subset hp)
    · split at hp
      · cases hp
      · rw [List.mem_singleton] at hp
        subst hp
        have := UInt8.toNat_lt c
        simp at hd
        exact ⟨⟨by simp only []; omega, by simp only []; omega⟩, by simp only []; omega⟩
    · exact h p (List.mem_filter.1 hp).1
theorem pars_ok (s : List UInt8) : ∀ (n a : Nat) (out : List Pr) (r : List Pr × Nat), parsF s n a out = some r → (∀ p ∈ out, 0 ≤ p.key ∧ p.key < 256) → (∀ p ∈ r.1, 0 ≤ p.key ∧ p.key < 256) ∧ r.1.length = out.length + n
  | 0, a, out, r, h, ho => by simp only [parsF] at h; cases h; exact ⟨ho, rfl⟩
  | n + 1, a, out, r, h, ho => by
    simp only [parsF] at h
    split at h
    · rename_i p b hp
      have hk : 0 ≤ p.key ∧ p.key < 256 := by
        unfold pairF at hp
        split at hp
        · split at hp
          · cases hp
          · cases hp
            have := UInt8.toNat_lt (s[a]?.getD 0)
            exact ⟨by simp only []; omega, by simp only []; omega⟩
        · cases hp
      have := pars_ok s n b (out ++ [p]) r h (fun q hq => by
        rcases List.mem_append.1 hq with hq | hq
        · exact ho q hq
        · rw [List.mem_singleton.1 hq]; exact hk)
      refine ⟨this.1, ?_⟩
      rw [this.2]; simp; omega
    · cases h
theorem right_val {l : List Pr} (h : rightF l = true) : ∀ p ∈ l, p.val.length ≤ 64 := by
  intro p hp
  obtain ⟨i, hi, rfl⟩ := List.getElem_of_mem hp
  have := (List.all_eq_true.1 h) i (by simpa using hi)
  simp only [atOk, List.getElem?_eq_getElem hi, prOk, Bool.and_eq_true, decide_eq_true_eq] at this
  omega
theorem parse_ok {s : List UInt8} {l : List Pr} (h : parseF s = some l) : okP l ∧ l.length ≤ 256 := by
  unfold parseF at h
  split at h
  · rename_i n k _
    split at h
    · cases h
    · rename_i hn
      unfold endF at h
      split at h
      · rename_i out a ho
        split at h
        · rename_i hc
          cases h
          have := pars_ok s n k [] _ ho (fun p hp => by cases hp)
          have hv := right_val hc.2
          refine ⟨fun p hp => ⟨this.1 p hp, hv p hp⟩, ?_⟩
          rw [this.2]; simp; omega
        · cases h
      · cases h
  · cases h
def runF (s : Sto) : Nat → Int → List Pr → List Pr
  | 0, _, l => l
  | n + 1, i, l => runF s n (i + 1) (stepF l (dataT s i))
def stateT (s : Sto) (off : Int) : List Pr := runF s (off - s.floor).toNat s.floor ((parseF (snapT s)).getD [])
theorem run_ok (s : Sto) : ∀ (n : Nat) (i : Int) (l : List Pr), okP l → okP (runF s n i l) ∧ (runF s n i l).length ≤ l.length + n
  | 0, i, l, h => ⟨h, by simp [runF]⟩
  | n + 1, i, l, h => by
    have h1 := run_ok s n (i + 1) (stepF l (dataT s i)) (step_ok h (data_len s i))
    have h2 := step_len l (dataT s i)
    exact ⟨h1.1, by simp only [runF]; omega⟩
theorem state_ok (s : Sto) (off : Int) : okP (stateT s off) ∧ (stateT s off).length ≤ 256 + (off - s.floor).toNat := by
  have h : okP ((parseF (snapT s)).getD []) ∧ ((parseF (snapT s)).getD []).length ≤ 256 := by
    cases hp : parseF (snapT s) with
    | none => exact ⟨fun p hp => (by simp at hp), by simp⟩
    | some l => exact parse_ok hp
  have := run_ok s (off - s.floor).toNat s.floor _ h.1
  exact ⟨this.1, by unfold stateT; omega⟩
set_option maxRecDepth 8000 in
set_option maxHeartbeats 1000000 in
theorem rstate_sto {k u : Nat} (s : Sto) (h : okS k u s) (hk : k ≤ 800000) (hu : u ≤ 1000000) (off : Int) (ho : off ≤ s.floor + 100000) : call 15 [.agg s.l, vi off] [] = some (vl ((stateT s off).map Pr.enc), []) := by
  have hf := rfloor_spec s
  have hfb := floor_ok h
  have hs := rsnap_sto s h hk
  have hsl : (snapT s).length ≤ 1000000 := by
    unfold snapT
    split
    · simp
    · exact Nat.le_trans (readF_len _ _) (Nat.le_trans h.dsk.used hu)
  have hp := parse_ref (snapT s) (by omega)
  have hpv : ∃ ok : Bool, parseV (parseF (snapT s)) = .tup [(false, [.d (.l (((parseF (snapT s)).getD []).map Pr.enc))]), (false, [.d (.b ok)])] := by
    cases parseF (snapT s) with
    | none => exact ⟨false, rfl⟩
    | some l => exact ⟨true, rfl⟩
  have hl0 : ((parseF (snapT s)).getD []).length ≤ 256 := by
    cases hp : parseF (snapT s) with
    | none => simp
    | some l => exact (parse_ok hp).2
  have hg := fun i => rread_any s h hk hu i
  obtain ⟨Z, hZ⟩ : ∃ Z : V, Z = vl ((stateT s off).map Pr.enc) := ⟨_, rfl⟩
  rw [← hZ]
  have hZ' : Z = vl ((runF s (off - s.floor).toNat s.floor ((parseF (snapT s)).getD [])).map Pr.enc) := hZ
  clear hZ
  obtain ⟨ok, hpv⟩ := hpv
  rw [hpv] at hp
  generalize (parseF (snapT s)).getD [] = l0 at *
  generalize snapT s = sn at *
  have hcell : s.l = [.d (.l (s.disk.files.map Fil.enc)), .d (.i .i64 s.disk.cap), .d (.b s.disk.armed), .d (.i .i64 s.disk.left), .d (.b s.disk.down), .d (.i .i64 s.ver), .d (.l (s.segs.map Seg.enc)), .d (.i .i64 s.next), .d (.i .i64 s.sure), .d (.i .i64 s.size), .d (.i .u32 s.sum)] := rfl
  apply enterS s15 rfl
  rw [hcell] at hf hs hg ⊢
  obtain ⟨fl, hfl⟩ : ∃ fl, fl = s.floor := ⟨_, rfl⟩
  rw [← hfl] at hf hfb hZ' ho
  (simp (disch:=first|decide|omega|(intros;exact rfl)|(simp only[puri];done)) only [wkf, a15, hf, hs, hp, go_sem, seval, dis])
  refine loop_boxM (m := 0) (σ := Int × List Pr) (fun t => (off - t.1).toNat) (fun t => fl ≤ t.1 ∧ t.2.length ≤ 256 + (t.1 - fl).toNat ∧ Z = vl ((runF s (off - t.1).toNat t.1 t.2).map Pr.enc)) (fun t => [vi off, V.one (.p 0 0), vl (t.2.map Pr.enc), vi t.1])
    (fun _ => [.cells [.d (.l (s.disk.files.map Fil.enc)), .d (.i .i64 s.disk.cap), .d (.b s.disk.armed), .d (.i .i64 s.disk.left), .d (.b s.disk.down), .d (.i .i64 s.ver), .d (.l (s.segs.map Seg.enc)), .d (.i .i64 s.next), .d (.i .i64 s.sure), .d (.i .i64 s.size), .d (.i .u32 s.sum)]]) (fun _ => (Z, [])) ?_ (fl, l0) ⟨Int.le_refl _, by simp only []; omega, hZ'⟩ _ _ hdM
  rintro ⟨i, l⟩ ⟨h1, h2, h3⟩ R hR
  simp only at h1 h2 h3
  by_cases hi : i < off
  · obtain ⟨n, hn⟩ : ∃ n, (off - i).toNat = n + 1 := ⟨(off - i).toNat - 1, by omega⟩
    rw [hn, runF] at h3
    obtain ⟨a, b, e, he⟩ := rget_eq s i
    have hgi := hg i
    rw [he] at hgi
    have hst := step_ref l (by omega) (dataT s i) (Nat.le_trans (data_len s i) (by decide))
    have hsl := step_len l (dataT s i)
    have hR' := hR (i + 1, stepF l (dataT s i)) (by simp only []; omega) ⟨by simp only []; omega, by simp only []; omega, by simp only []; rw [show (off - (i + 1)).toNat = n by omega]; exact h3⟩
    generalize stepF l (dataT s i) = l1 at *
    generalize dataT s i = dd at *
    (simp (disch:=first|decide|omega|(intros;exact rfl)|(simp only[puri];done)) only [wkf, a15_0, decide_eq_true hi, hgi, hst, go_sem, seval, dis])
    exact hR' _ _ hdM
  · have e : (off - i).toNat = 0 := by omega
    rw [e, runF] at h3
    rw [h3]
    (simp (disch:=first|decide|omega|(intros;exact rfl)|(simp only[puri];done)) only [wkf, a15_0, a15, decide_eq_false hi, go_sem, seval, dis])
    try simp [trim]
end Go.Proofs.YthlnpioogbmogaaGreat

namespace Go.Proofs.YthlnpioogbmogaaGreat
open Go.Vi
theorem undo13_spec (d : Dsk) (hd : d.ok) (e : Int) (n : Txt) : call 69 [.agg d.l, vi e, vs n] [] = some (dskV (unlS n (d, e)), []) := by
  have h := rdelete_spec d hd n
  have e1 : delS n (d, 0) = chgF d (delR d.files n) := stp_ye _ _
  have eu : unlS n (d, e) = if e ≠ 9 then (d, e) else if (chgF d (delR d.files n)).2 = 0 then ((chgF d (delR d.files n)).1, 9) else chgF d (delR d.files n) := by
    unfold unlS; simp only [e1]
  rw [eu]
  generalize chgF d (delR d.files n) = q at *
  obtain ⟨⟨fl, cp, ar, lf, dn⟩, qe⟩ := q
  obtain ⟨fl0, cp0, ar0, lf0, dn0⟩ := d
  simp only [dskV, Dsk.l] at h ⊢
  apply enterS s69 rfl
  by_cases c : e = 9
  · subst c
    rw [if_neg (by simp)]
    by_cases c2 : qe = 0
    · subst c2
      rw [if_pos rfl]
      (simp (disch:=first|decide|omega|(intros;exact rfl)|(simp only[puri];done)) only [wkf, a69, h, go_sem, seval, dis])
      try simp [trim]
    · rw [if_neg c2]
      (simp (disch:=first|decide|omega|(intros;exact rfl)|(simp only[puri];done)) only [wkf, a69, h, c2, go_sem, seval, dis])
      try simp [trim, c2]
  · rw [if_pos c]
    (simp (disch:=first|decide|omega|(intros;exact rfl)|(simp only[puri];done)) only [wkf, a69, c, go_sem, seval, dis])
    try simp [trim, c]
def sumT (x : Txt) : Int := (((crcOn 0#32 x).toNat : Nat) : Int)
theorem sumT_lt (x : Txt) : 0 ≤ sumT x ∧ sumT x < 4294967296 := by
  have := (crcOn 0#32 x).isLt
  unfold sumT; omega
def layT (d : Dsk) (n x : Txt) (m : Man) : Dsk × Int :=
  let a := crtS n (d, 0)
  let b := if a.2 = 0 then unlS n (appS n x a) else a
  let c := synS n b
  if c.2 = 0 then unlS n (swapS m c) else c
def delsF (l : List Seg) (s : Dsk × Int) : Dsk × Int := l.foldl (fun s g => delS (fileN g.base) s) s
def oldT (s : Sto) (k : Nat) (q : Dsk × Int) : Dsk × Int :=
  let r := delsF (s.segs.take k) q
  if r.2 = 0 ∧ 0 < s.floor then delS (snapN s.floor) r else r
def baseF (l : List Seg) (k : Nat) : Int := match l[k]? with | some g => g.base | none => 0
def trimX (s : Sto) (k : Nat) : Sto := { s with ver := s.ver + 1, segs := s.segs.drop k, size := ((bytesF (stateT s (baseF s.segs k))).length : Nat), sum := sumT (bytesF (stateT s (baseF s.segs k))) }
def trimK (s : Sto) (k : Nat) : Sto × Int :=
  let e := layT s.disk (snapN (baseF s.segs k)) (bytesF (stateT s (baseF s.segs k))) (trimX s k).man
  if e.2 ≠ 0 then ({ s with disk := e.1 }, e.2) else ({ trimX s k with disk := (oldT s k e).1 }, (oldT s k e).2)
def trimT (s : Sto) (keep count : Int) : Sto × Int := if pickF s.segs keep count = 0 then (s, 0) else trimK s (pickF s.segs keep count)
theorem dels_ok {k u : Nat} : ∀ (l : List Seg) (s : Dsk × Int), okN k u s.1 → okN k u (delsF l s).1
  | [], s, h => h
  | g :: l, s, h => dels_ok l _ (del_okN h _)
theorem old_ok {k u : Nat} {s : Sto} {n : Nat} {q : Dsk × Int} (h : okN k u q.1) : okN k u (oldT s n q).1 := by
  unfold oldT
  simp only []
  split
  · exact del_okN (dels_ok _ _ h) _
  · exact dels_ok _ _ h
theorem lay_ok {k u : Nat} {d : Dsk} (h : okN k u d) (n x : Txt) (m : Man) : okN (k + 2) (u + x.length + 800) (layT d n x m).1 := by
  unfold layT
  simp only []
  have h1 := crt_ok (s := (d, 0)) h n
  have h2 : okN (k + 1) (u + x.length) (if (crtS n (d, 0)).2 = 0 then unlS n (appS n x (crtS n (d, 0))) else crtS n (d, 0)).1 := by
    split
    · exact unl_ok (app_ok h1 n x) n
    · exact h1.up (by omega) (by omega)
  generalize (if (crtS n (d, 0)).2 = 0 then unlS n (appS n x (crtS n (d, 0))) else crtS n (d, 0)) = b at *
  have h3 := syn_ok h2 n
  split
  · exact unl_ok (swap_okN h3 m) n
  · exact h3.up (by omega) (by omega)
theorem enc_len9 (n : Nat) (h : n < 9223372036854775808) : (enc128 n).length ≤ 9 := nd_le9 h
theorem bytes_len {l : List Pr} (h : okP l) (hl : l.length ≤ 1000000) : (bytesF l).length ≤ 9 + 74 * l.length := by
  have h1 : ∀ l : List Pr, okP l → (l.flatMap prB).length ≤ 74 * l.length := by
    intro l
    induction l with
    | nil => intro _; simp
    | cons p r ih =>
      intro h
      have hp := (h p (by simp)).2
      have hr := ih (fun q hq => h q (by simp [hq]))
      have he := enc_len9 p.val.length (by omega)
      rw [List.flatMap_cons, List.length_append]
      simp only [prB, List.length_cons, List.length_append]
      omega
  have h2 := h1 l h
  have h3 := enc_len9 l.length (by omega)
  unfold bytesF
  rw [List.length_append]; omega
theorem base_at {l : List Seg} {k : Nat} (h : k < l.length) : l[k]? = some l[k] ∧ baseF l k = l[k].base := by
  have e : l[k]? = some l[k] := List.getElem?_eq_getElem h
  exact ⟨e, by unfold baseF; rw [e]⟩
theorem base_ok {k u : Nat} {s : Sto} (h : okS k u s) {n : Nat} (hn : n < s.segs.length) : 0 ≤ baseF s.segs n ∧ baseF s.segs n ≤ 1099511627776 := by
  rw [(base_at hn).2]; exact (h.seg _ (List.getElem_mem hn)).1
theorem trimK_ok {k u : Nat} {s : Sto} (h : okS k u s) {n : Nat} (hn : n < s.segs.length) (hb : baseF s.segs n ≤ s.floor + 40) : okS (k + 2) (u + 23000) (trimK s n).1 := by
  have hs := state_ok s (baseF s.segs n)
  have hlen := bytes_len hs.1 (by omega)
  have hl := lay_ok h.dsk (snapN (baseF s.segs n)) (bytesF (stateT s (baseF s.segs n))) (trimX s n).man
  have hl' := hl.up (k' := k + 2) (u' := u + 23000) (Nat.le_refl _) (by omega)
  unfold trimK
  simp only []
  split
  · exact ⟨hl', h.len, fun g hg => by have := h.seg g hg; omega, h.next, by have := h.ver; simp only []; omega, h.sum⟩
  · refine ⟨old_ok hl', ?_, fun g hg => ?_, h.next, ?_, sumT_lt _⟩
    · show 1 ≤ (s.segs.drop n).length ∧ (s.segs.drop n).length ≤ 64
      have := h.len; simp; omega
    · have := h.seg g (List.mem_of_mem_drop hg); omega
    · show 0 ≤ s.ver + 1 ∧ s.ver + 1 ≤ ((u + 23000 : Nat) : Int)
      have := h.ver; omega
end Go.Proofs.YthlnpioogbmogaaGreat

namespace Go.Proofs.YthlnpioogbmogaaGreat
open Go.Vi
theorem dels_no {s : Dsk × Int} (h : s.2 ≠ 0) : ∀ l : List Seg, delsF l s = s
  | [] => rfl
  | g :: l => by
    have e : delsF (g :: l) s = delsF l (delS (fileN g.base) s) := rfl
    rw [e, show delS (fileN g.base) s = s from stp_no h _]
    exact dels_no h l
theorem dels_at {l : List Seg} {i n : Nat} (hi : i < n) (h : i < l.length) (s : Dsk × Int) : delsF ((l.take n).drop i) s = delsF ((l.take n).drop (i + 1)) (delS (fileN l[i].base) s) := by
  rw [List.drop_eq_getElem_cons (by simp; omega), List.getElem_take]; rfl
theorem okS.segsB {k u : Nat} {s : Sto} (h : okS k u s) (hu : u ≤ 1000000) : segsB s.segs :=
  ⟨by have := h.len; omega, fun g hg => by have := h.seg g hg; omega⟩
set_option maxRecDepth 20000 in
set_option maxHeartbeats 4000000 in
theorem rtrim_spec {k u : Nat} (s : Sto) (h : okS k u s) (hk : k ≤ 700000) (hu : u ≤ 900000) (keep count : Int) (hb : ∀ g ∈ s.segs, g.base ≤ s.floor + 40) : call 23 [.agg s.l, vi keep, vi count] [] = some (stoV (trimT s keep count), []) := by
  have q1 := pick_spec s.segs (h.segsB (by omega)) keep count
  by_cases c0 : pickF s.segs keep count = 0
  · have e : trimT s keep count = (s, 0) := by unfold trimT; rw [if_pos c0]
    rw [e]
    rw [c0] at q1
    have z0 : ((0 : Nat) : Int) = 0 := rfl
    rw [z0] at q1
    obtain ⟨⟨fl, cp, ar, lf, dn⟩, ver, segs, next, sure, size, sum⟩ := s
    simp only [Sto.l, Dsk.l, stoV, List.cons_append, List.nil_append] at q1 ⊢
    apply enterS s23 rfl
    (simp (disch:=first|decide|omega|(intros;exact rfl)|(simp only[puri];done)) only [wkf, a23, q1, go_sem, seval, dis])
    try simp [trim]
  · have hn := pickF_lt s.segs keep count c0
    have e : trimT s keep count = trimK s (pickF s.segs keep count) := by unfold trimT; rw [if_neg c0]
    rw [e]
    clear e
    generalize pickF s.segs keep count = n at *
    have hfb := base_ok h hn
    have hbk : baseF s.segs n ≤ s.floor + 40 := by rw [(base_at hn).2]; exact hb _ (List.getElem_mem hn)
    have q2 : (s.segs.map Seg.enc)[n]? = some [.i .i64 (baseF s.segs n), .i .i64 s.segs[n].n, .i .i64 s.segs[n].size] := by
      rw [List.getElem?_map, (base_at hn).1, (base_at hn).2]; rfl
    have q3 := rsnap_int hfb
    have q4 := rstate_sto s h (by omega) (by omega) (baseF s.segs n) (by omega)
    have hst := state_ok s (baseF s.segs n)
    have hfo := floor_ok h
    have hxl := bytes_len hst.1 (by omega)
    have q5 := bytes_ref (stateT s (baseF s.segs n)) (by omega) (by omega) (fun p hp => (hst.1 p hp).1)
    have q6 := rcreate_spec s.disk (h.dsk.ok (by omega) (by omega)) (snapN (baseF s.segs n))
    have e6 : crtS (snapN (baseF s.segs n)) (s.disk, 0) = chgF s.disk (crtR s.disk.files (snapN (baseF s.segs n))) := stp_ye _ _
    have k6 := crt_ok (s := (s.disk, 0)) h.dsk (snapN (baseF s.segs n))
    have q10 := refOf_spec (bytesF (stateT s (baseF s.segs n))) (by omega)
    have hsum := sumT_lt (bytesF (stateT s (baseF s.segs n)))
    have es : sumT (bytesF (stateT s (baseF s.segs n))) = (((crcOn 0#32 (bytesF (stateT s (baseF s.segs n)))).toNat : Nat) : Int) := rfl
    rw [← es] at q10
    have hxm : (trimX s n).segs.length ≤ 1000000 := by show (s.segs.drop n).length ≤ _; have := h.len; simp; omega
    have q11 := rman_spec (trimX s n) hxm
    have hmo : (trimX s n).man.ok := ⟨by show ((s.segs.drop n).map _).length ≤ _; rw [List.length_map]; exact hxm, hsum⟩
    have eX : trimX s n = { s with ver := s.ver + 1, segs := s.segs.drop n, size := ((bytesF (stateT s (baseF s.segs n))).length : Nat), sum := sumT (bytesF (stateT s (baseF s.segs n))) } := rfl
    have hX2 : (bytesF (stateT s (baseF s.segs n))).length ≤ 1000000 := by omega
    unfold trimK layT
    simp only []
    rw [e6] at k6 ⊢
    have hfin : ∀ q, oldT s n q = oldT s n q := fun _ => rfl
    generalize stateT s (baseF s.segs n) = st at *
    generalize bytesF st = X at *
    generalize snapN (baseF s.segs n) = N at *
    generalize baseF s.segs n = fb at *
    generalize chgF s.disk (crtR s.disk.files N) = a at *
    apply enterS s23 rfl
    have hver := h.ver
    have hok : okRows 3 (s.segs.map Seg.enc) = true := okRows_map Seg.len s.segs
    have hslen : s.segs.length ≤ 64 := h.len.2
    have hnl : n ≤ s.segs.length := Nat.le_of_lt hn
    obtain ⟨DQ, hDQ, hokd, hdl, hdl2⟩ : ∃ DQ, List.drop n (s.segs.map Seg.enc) = DQ ∧ okRows 3 DQ = true ∧ DQ.length ≤ 64 ∧ DQ = (s.segs.drop n).map Seg.enc := by
      have e : List.drop n (s.segs.map Seg.enc) = (s.segs.drop n).map Seg.enc := by rw [List.map_drop]
      exact ⟨_, rfl, by rw [e]; exact okRows_map Seg.len _, by rw [e]; simp; omega, e⟩
    by_cases c1 : a.2 = 0
    · rw [if_pos c1]
      have e7 : appS N X a = chgF a.1 (appR a.1.files a.1.cap N X) := if_pos c1
      have q7 := rappend_spec a.1 (k6.ok (by omega) (by omega)) N X (by omega)
      have k7 := app_ok k6 N X
      rw [e7] at k7 ⊢
      generalize chgF a.1 (appR a.1.files a.1.cap N X) = p at *
      have q8 := undo13_spec p.1 (k7.ok (by omega) (by omega)) p.2 N
      have k8 := unl_ok k7 N
      have ep : unlS N (p.1, p.2) = unlS N p := rfl
      rw [ep] at q8
      generalize unlS N p = b at *
      by_cases c2 : b.2 = 0
      · have e9 : synS N b = chgF b.1 (synR b.1.files N) := if_pos c2
        have q9 := rsync_spec b.1 (k8.ok (by omega) (by omega)) N
        have k9 := syn_ok k8 N
        rw [e9] at k9 ⊢
        generalize chgF b.1 (synR b.1.files N) = c at *
        by_cases c3 : c.2 = 0
        · rw [if_pos c3]
          have q12 := rswap_spec c.1 k9 (by omega) (by omega) (trimX s n).man hmo
          have ec : swapS (trimX s n).man (c.1, 0) = swapS (trimX s n).man c := by rw [← c3]
          have k10 := swap_okN k9 (trimX s n).man
          rw [ec] at q12
          generalize swapS (trimX s n).man c = w at *
          have q13 := undo13_spec w.1 (k10.ok (by omega) (by omega)) w.2 N
          have k11 := unl_ok k10 N
          have ew : unlS N (w.1, w.2) = unlS N w := rfl
          rw [ew] at q13
          generalize unlS N w = v at *
          by_cases c4 : v.2 = 0
          · rw [if_neg (by simp [c4])]
            have hsg : (trimX s n).segs.map Seg.enc = DQ := hdl2.symm
            have qf := rfloor_spec s
            have qs := rsnap_int hfo
            have hseg := h.seg
            obtain ⟨fl', hfl'⟩ : ∃ fl', fl' = s.floor := ⟨_, rfl⟩
            have eold : oldT s n v = (if (delsF (s.segs.take n) v).2 = 0 ∧ 0 < fl' then delS (snapN fl') (delsF (s.segs.take n) v) else delsF (s.segs.take n) v) := by rw [hfl']; rfl
            rw [eold]
            rw [← hfl'] at qf qs hfo
            clear eold hfl' hfin hbk hb
            generalize snapN fl' = FN at *
            obtain ⟨Z, hZ⟩ : ∃ Z : V, Z = stoV ({ trimX s n with disk := (if (delsF (s.segs.take n) v).2 = 0 ∧ 0 < fl' then delS FN (delsF (s.segs.take n) v) else delsF (s.segs.take n) v).1 }, (if (delsF (s.segs.take n) v).2 = 0 ∧ 0 < fl' then delS FN (delsF (s.segs.take n) v) else delsF (s.segs.take n) v).2) := ⟨_, rfl⟩
            rw [← hZ]
            generalize hQ : delsF (s.segs.take n) v = Q at hZ
            obtain ⟨⟨fl, cp, ar, lf, dn⟩, ver, segs, next, sure, size, sum⟩ := s
            obtain ⟨⟨fl1, cp1, ar1, lf1, dn1⟩, a2⟩ := a
            obtain ⟨⟨fl2, cp2, ar2, lf2, dn2⟩, p2⟩ := p
            obtain ⟨⟨fl3, cp3, ar3, lf3, dn3⟩, b2⟩ := b
            obtain ⟨⟨fl4, cp4, ar4, lf4, dn4⟩, c2'⟩ := c
            obtain ⟨⟨fl5, cp5, ar5, lf5, dn5⟩, w2⟩ := w
            obtain ⟨⟨fl6, cp6, ar6, lf6, dn6⟩, v2⟩ := v
            simp only at c1 c2 c3 c4
            subst c1 c2 c3 c4
            simp only [Sto.l, Dsk.l, stoV, dskV, Sto.man, Man.l, eX, List.cons_append, List.nil_append] at q1 q2 q4 q6 q7 q8 q9 q11 q12 q13 hok hnl hDQ hsg hver hZ hQ k11 hseg hn qf hslen ⊢
            rw [hsg] at q11 hZ
            (simp (disch:=first|decide|omega|(intros;exact rfl)|(simp only[puri];done)) only [wkf, a23, q1, q2, q3, q4, q5, q6, q7, q8, q9, q10, c0, hok, hnl, hDQ, hokd, ↓iso_callzA_e, czKA_a, splitS, allD, czR_some, q11, q12, q13, go_sem, seval, dis, vdr, A.kind, A.xs, optX])
            refine loop_boxM (m := 0) (σ := Nat × (Dsk × Int)) (fun t => n - t.1) (fun t => t.1 ≤ n ∧ okN (k + 1 + 1) (u + X.length + 800) t.2.1 ∧ delsF ((segs.take n).drop t.1) t.2 = Q) (fun t => [V.one (.p 0 0), V.one (.p 1 0), vi n, V.one (.p 2 0), vi t.2.2, V.one (.p 3 0), vi t.1])
              (fun t => [.cells [.d (.l (fl.map Fil.enc)), .d (.i .i64 cp), .d (.b ar), .d (.i .i64 lf), .d (.b dn), .d (.i .i64 ver), .d (.l (segs.map Seg.enc)), .d (.i .i64 next), .d (.i .i64 sure), .d (.i .i64 size), .d (.i .u32 sum)],
                .cells [.ns, .d (.i .i64 0), .d (.b false), .d (.i .i64 0), .d (.b false), .d (.i .i64 0), .ns, .d (.i .i64 0), .d (.i .i64 0), .d (.i .i64 0), .d (.i .u32 0)],
                .cells [.d (.l (t.2.1.files.map Fil.enc)), .d (.i .i64 t.2.1.cap), .d (.b t.2.1.armed), .d (.i .i64 t.2.1.left), .d (.b t.2.1.down)],
                .cells [.d (.l (fl.map Fil.enc)), .d (.i .i64 cp), .d (.b ar), .d (.i .i64 lf), .d (.b dn), .d (.i .i64 (ver + 1)), .sl 4 3 0 DQ.length, .d (.i .i64 next), .d (.i .i64 sure), .d (.i .i64 X.length), .d (.i .u32 (sumT X))],
                .arr 3 DQ (max 0 DQ.length)]) (fun _ => (Z, [])) ?_ (0, (⟨fl6, cp6, ar6, lf6, dn6⟩, 0)) ⟨Nat.zero_le _, k11, by simpa using hQ⟩ _ _ ?_
            rotate_left
            · exact hdM
            rintro ⟨i, ⟨⟨dfl, dcp, dar, dlf, ddn⟩, de⟩⟩ ⟨h1, h2, h3⟩ R hR
            simp only at h1 h2 h3 ⊢
            clear q1 q3 q4 q5 q6 q7 q8 q9 q10 q11 q12 q13 hQ q2
            have htk : List.take DQ.length DQ = DQ := List.take_length
            by_cases he : de = 0
            · subst he
              by_cases hi : i < n
              · have hil : i < segs.length := by omega
                have g1 : (segs.map Seg.enc)[i]? = some [.i .i64 segs[i].base, .i .i64 segs[i].n, .i .i64 segs[i].size] := by
                  rw [List.getElem?_map, List.getElem?_eq_getElem hil]; rfl
                have g2 := rseg_spec (hseg _ (List.getElem_mem hil)).1
                have g3 := rdelete_spec ⟨dfl, dcp, dar, dlf, ddn⟩ (h2.ok (by omega) (by omega)) (fileN segs[i].base)
                have kk := del_okN (s := (⟨dfl, dcp, dar, dlf, ddn⟩, 0)) h2 (fileN segs[i].base)
                have e1 : delS (fileN segs[i].base) (⟨dfl, dcp, dar, dlf, ddn⟩, 0) = chgF ⟨dfl, dcp, dar, dlf, ddn⟩ (delR dfl (fileN segs[i].base)) := stp_ye _ _
                rw [dels_at hi hil] at h3
                rw [e1] at h3 kk
                simp only at g3
                generalize chgF ⟨dfl, dcp, dar, dlf, ddn⟩ (delR dfl (fileN segs[i].base)) = q at *
                have hR' := hR (i + 1, q) (by simp only []; omega) ⟨by simp only []; omega, kk, h3⟩
                generalize fileN segs[i].base = FB at *
                obtain ⟨⟨qfl, qcp, qar, qlf, qdn⟩, qe⟩ := q
                simp only [Dsk.l, dskV] at g3 hR'
                have hci : (i : Int) < (n : Int) := by omega
                (simp (disch:=first|decide|omega|(intros;exact rfl)|(simp only[puri];done)) only [wkf, a23_0, decide_eq_true hci, g1, g2, g3, go_sem, seval, dis, vdr, A.kind, A.xs, optX])
                exact hR' _ _ hdM
              · have hci : ¬ (i : Int) < (n : Int) := by omega
                rw [List.drop_eq_nil_of_le (by simp; omega)] at h3
                have h3' : Q = (⟨dfl, dcp, dar, dlf, ddn⟩, 0) := h3.symm
                subst h3'
                by_cases hf : 0 < fl'
                · rw [if_pos ⟨rfl, hf⟩] at hZ
                  have g3 := rdelete_spec ⟨dfl, dcp, dar, dlf, ddn⟩ (h2.ok (by omega) (by omega)) FN
                  have e1 : delS FN (⟨dfl, dcp, dar, dlf, ddn⟩, 0) = chgF ⟨dfl, dcp, dar, dlf, ddn⟩ (delR dfl FN) := stp_ye _ _
                  rw [e1] at hZ
                  simp only at g3
                  generalize chgF ⟨dfl, dcp, dar, dlf, ddn⟩ (delR dfl FN) = q at *
                  obtain ⟨⟨qfl, qcp, qar, qlf, qdn⟩, qe⟩ := q
                  simp only [Dsk.l, dskV] at g3 hZ
                  rw [hZ]
                  (simp (disch:=first|decide|omega|(intros;exact rfl)|(simp only[puri];done)) only [wkf, a23_0, a23, decide_eq_false hci, qf, qs, decide_eq_true hf, g3, htk, go_sem, seval, dis, vdr, A.kind, A.xs, optX])
                  try simp [trim]
                · rw [if_neg (fun h => hf h.2)] at hZ
                  simp only at hZ
                  rw [hZ]
                  (simp (disch:=first|decide|omega|(intros;exact rfl)|(simp only[puri];done)) only [wkf, a23_0, a23, decide_eq_false hci, qf, decide_eq_false hf, htk, go_sem, seval, dis, vdr, A.kind, A.xs, optX])
                  try simp [trim]
            · rw [dels_no he] at h3
              subst h3
              rw [if_neg (fun h => he h.1)] at hZ
              simp only at hZ
              rw [hZ]
              have he' : (de == 0) = false := by simpa using he
              by_cases hi : i < n
              · have hci : (i : Int) < (n : Int) := by omega
                (simp (disch:=first|decide|omega|(intros;exact rfl)|(simp only[puri];done)) only [wkf, a23_0, a23, decide_eq_true hci, he, he', htk, go_sem, seval, dis, vdr, A.kind, A.xs, optX])
                try simp [trim]
              · have hci : ¬ (i : Int) < (n : Int) := by omega
                (simp (disch:=first|decide|omega|(intros;exact rfl)|(simp only[puri];done)) only [wkf, a23_0, a23, decide_eq_false hci, he, he', htk, go_sem, seval, dis, vdr, A.kind, A.xs, optX])
                try simp [trim]
          · rw [if_pos c4]
            have hsg : (trimX s n).segs.map Seg.enc = DQ := hdl2.symm
            obtain ⟨⟨fl, cp, ar, lf, dn⟩, ver, segs, next, sure, size, sum⟩ := s
            obtain ⟨⟨fl1, cp1, ar1, lf1, dn1⟩, a2⟩ := a
            obtain ⟨⟨fl2, cp2, ar2, lf2, dn2⟩, p2⟩ := p
            obtain ⟨⟨fl3, cp3, ar3, lf3, dn3⟩, b2⟩ := b
            obtain ⟨⟨fl4, cp4, ar4, lf4, dn4⟩, c2'⟩ := c
            obtain ⟨⟨fl5, cp5, ar5, lf5, dn5⟩, w2⟩ := w
            obtain ⟨⟨fl6, cp6, ar6, lf6, dn6⟩, v2⟩ := v
            simp only at c1 c2 c3
            subst c1 c2 c3
            simp only [Sto.l, Dsk.l, stoV, dskV, Sto.man, Man.l, hsg, eX, List.cons_append, List.nil_append] at *
            rw [hsg] at q11
            (simp (disch:=first|decide|omega|(intros;exact rfl)|(simp only[puri];done)) only [wkf, a23, q1, q2, q3, q4, q5, q6, q7, q8, q9, q10, c0, hok, hnl, hDQ, hokd, ↓iso_callzA_e, czKA_a, splitS, allD, czR_some, q11, q12, q13, c4, go_sem, seval, dis, vdr, A.kind, A.xs, optX])
            try simp [trim, c4]
        · rw [if_neg c3, if_pos c3]
          obtain ⟨⟨fl, cp, ar, lf, dn⟩, ver, segs, next, sure, size, sum⟩ := s
          obtain ⟨⟨fl1, cp1, ar1, lf1, dn1⟩, a2⟩ := a
          obtain ⟨⟨fl2, cp2, ar2, lf2, dn2⟩, p2⟩ := p
          obtain ⟨⟨fl3, cp3, ar3, lf3, dn3⟩, b2⟩ := b
          obtain ⟨⟨fl4, cp4, ar4, lf4, dn4⟩, c2'⟩ := c
          simp only at c1 c2
          subst c1 c2
          simp only [Sto.l, Dsk.l, stoV, dskV, List.cons_append, List.nil_append] at *
          (simp (disch:=first|decide|omega|(intros;exact rfl)|(simp only[puri];done)) only [wkf, a23, q1, q2, q3, q4, q5, q6, q7, q8, q9, q10, c0, c3, hok, hnl, hDQ, hokd, go_sem, seval, dis])
          try simp [trim, c3]
      · have e9 : synS N b = b := stp_no c2 _
        rw [e9, if_neg c2, if_pos c2]
        obtain ⟨⟨fl, cp, ar, lf, dn⟩, ver, segs, next, sure, size, sum⟩ := s
        obtain ⟨⟨fl1, cp1, ar1, lf1, dn1⟩, a2⟩ := a
        obtain ⟨⟨fl2, cp2, ar2, lf2, dn2⟩, p2⟩ := p
        obtain ⟨⟨fl3, cp3, ar3, lf3, dn3⟩, b2⟩ := b
        simp only at c1
        subst c1
        simp only [Sto.l, Dsk.l, stoV, dskV, List.cons_append, List.nil_append] at *
        (simp (disch:=first|decide|omega|(intros;exact rfl)|(simp only[puri];done)) only [wkf, a23, q1, q2, q3, q4, q5, q6, q7, q8, q10, c0, c2, hok, hnl, hDQ, hokd, go_sem, seval, dis])
        try simp [trim, c2]
    · rw [if_neg c1]
      have e1 : synS N a = a := stp_no c1 _
      rw [e1, if_neg c1, if_pos c1]
      obtain ⟨⟨fl, cp, ar, lf, dn⟩, ver, segs, next, sure, size, sum⟩ := s
      obtain ⟨⟨fl1, cp1, ar1, lf1, dn1⟩, a2⟩ := a
      simp only [Sto.l, Dsk.l, stoV, dskV, List.cons_append, List.nil_append] at *
      (simp (disch:=first|decide|omega|(intros;exact rfl)|(simp only[puri];done)) only [wkf, a23, q1, q2, q3, q4, q5, q6, q10, c0, c1, hok, hnl, hDQ, hokd, go_sem, seval, dis])
      try simp [trim, c1]
end Go.Proofs.YthlnpioogbmogaaGreat

