import Derived.Test.YtijnkmjbfekajaaGreatXZ12Tab
import Derived.Test.YtijnkmjbfekajaaGreatVid
set_option linter.unusedSimpArgs false
set_option linter.unusedVariables false
namespace Go.Proofs.YtijnkmjbfekajaaGreat
open Go.Vi
theorem refOn_spec (sum : W32) (s : List UInt8) (hs : s.length ≤ 9223372036854775807) : call 133 [vk .u32 ((sum.toNat : Nat) : Int), vs s] [] = some (vk .u32 (((crcOn sum s).toNat : Nat) : Int), []) := by
  apply enterS s133 rfl
  (simp (disch:=first|decide|omega|(intros;exact Eq.trans rfl rfl)|(simp only[puri];done)) only [a133, ↓bit32, go_sem, seval, dis])
  refine loop_data (σ := Nat) (fun k => s.length - k) (fun k => k ≤ s.length) (fun k => [vs s, vk .u32 ((((s.take k).foldl crcB (~~~sum)).toNat : Nat) : Int), vi k]) (fun _ => (vk .u32 (((crcOn sum s).toNat : Nat) : Int), [])) (fun _ => by simp only [go_sem, seval]) ?_ 0 (Nat.zero_le _) _ (by simp [go_sem, seval])
  intro k hk R hR
  rcases Nat.lt_or_ge k s.length with h | h
  · (simp (disch:=first|decide|omega|(intros;exact Eq.trans rfl rfl)|(simp only[puri];done)) only [a133_0, ↓bit32, str_get s k h, cvi32_byte, go_sem, seval, dis])
    have e1 : (s.take (k + 1)).foldl crcB (~~~sum) = crcB ((s.take k).foldl crcB (~~~sum)) s[k] := by rw [take_succ_get s k h, List.foldl_append]; rfl
    generalize (s.take k).foldl crcB (~~~sum) = x at *
    refine loop_data (σ := Nat) (fun j => 8 - j) (fun j => j ≤ 8) (fun j => [vs s, vk .u32 (((crcN j (x ^^^ BitVec.ofNat 32 s[k].toNat)).toNat : Nat) : Int), vi k, vi j]) (fun _ => (vk .u32 (((crcOn sum s).toNat : Nat) : Int), [])) (fun _ => by simp only [go_sem, seval]) ?_ 0 (Nat.zero_le _) _ (by simp [crcN, go_sem, seval])
    intro j hj R2 hR2
    rcases Nat.lt_or_ge j 8 with hj8 | hj8
    · have e2 : crcN (j + 1) (x ^^^ BitVec.ofNat 32 s[k].toNat) = crc1 (crcN j (x ^^^ BitVec.ofNat 32 s[k].toNat)) := crcN_add j 1 _
      generalize crcN j (x ^^^ BitVec.ofNat 32 s[k].toNat) = y at *
      cases hb : y.getLsbD 0 with
      | true =>
        have e3 : crc1 y = (y >>> 1) ^^^ crcP := by unfold crc1; rw [hb]; rfl
        (simp (disch:=first|decide|omega|(intros;exact Eq.trans rfl rfl)|(simp only[puri];done)) only [a133_1, ↓bit32, hb, go_sem, seval, dis])
        exact hR2 (j + 1) (by omega) (by omega) _ (by simp [e2, e3, go_sem, seval])
      | false =>
        have e3 : crc1 y = y >>> 1 := by unfold crc1; rw [hb]; rfl
        (simp (disch:=first|decide|omega|(intros;exact Eq.trans rfl rfl)|(simp only[puri];done)) only [a133_1, ↓bit32, hb, go_sem, seval, dis])
        exact hR2 (j + 1) (by omega) (by omega) _ (by simp [e2, e3, go_sem, seval])
    · have : j = 8 := by omega
      subst this
      (simp (disch:=first|decide|omega|(intros;exact Eq.trans rfl rfl)|(simp only[puri];done)) only [a133_1, go_sem, seval, dis])
      exact hR (k + 1) (by omega) (by omega) _ (by simp [e1, crcB, go_sem, seval])
  · (simp (disch:=first|decide|omega|(intros;exact Eq.trans rfl rfl)|(simp only[puri];done)) only [a133_0, ↓bit32, go_sem, seval, dis])
    rw [List.take_of_length_le h]; rfl
theorem refOf_spec (s : List UInt8) (hs : s.length ≤ 9223372036854775807) : call 121 [vs s] [] = some (vk .u32 (((crcOn 0#32 s).toNat : Nat) : Int), []) := by
  apply enterS s121 rfl
  have h : call 133 [vk .u32 0, vs s] [] = some (vk .u32 (((crcOn 0#32 s).toNat : Nat) : Int), []) := refOn_spec 0#32 s hs
  (simp (disch:=first|decide|omega|(intros;exact Eq.trans rfl rfl)|(simp only[puri];done)) only [a121, h, go_sem, seval, dis])
theorem four_spec (x : W32) : call 104 [vk .u32 ((x.toNat : Nat) : Int)] [] = some (vs (four x), []) := by
  apply enterS s104 rfl
  (simp (disch:=first|decide|omega|(intros;exact Eq.trans rfl rfl)|(simp only[puri];done)) only [a104, ↓bit32, wrap8_nat, bytesOf_nil, bytesOf_cons, byte_mod, four, List.replicate, go_sem, seval, dis])
theorem refFour_spec (x : W32) : call 90 [vk .u32 ((x.toNat : Nat) : Int)] [] = some (vs (four x), []) := by
  apply enterS s90 rfl
  (simp (disch:=first|decide|omega|(intros;exact Eq.trans rfl rfl)|(simp only[puri];done)) only [a90, ↓bit32, wrap8_nat, bytesOf_nil, bytesOf_cons, byte_mod, four, List.replicate, go_sem, seval, dis])
theorem table_spec : call 138 [] [] = some (.agg tabW, []) := by
  apply enterS s138 rfl
  (simp (disch:=first|decide|omega|(intros;exact Eq.trans rfl rfl)|(simp only[puri];done)) only [a138, go_sem, seval, dis])
  refine loop_box (σ := Nat) (fun k => 16 - k) (fun k => k ≤ 16) (fun k => [.one (.p 0 0), .one (.p 1 0), vi k]) (fun k => [.cells (tabK 0), .cells (tabK k)]) (fun _ => (V.agg tabW, ([] : Hp))) ?_ 0 (Nat.zero_le _) _ _ ?_
  · intro k hk R hR
    rcases Nat.lt_or_ge k 16 with h | h
    · (simp (disch:=first|decide|omega|(intros;exact Eq.trans rfl rfl)|(simp only[puri];done)) only [a138_0, ↓bit32, go_sem, seval, dis])
      have e0 : k % 4294967296 = k := Nat.mod_eq_of_lt (by omega)
      refine loop_box (σ := Nat) (fun j => 4 - j) (fun j => j ≤ 4) (fun j => [.one (.p 0 0), .one (.p 1 0), vi k, vk .u32 (((crcN j (BitVec.ofNat 32 k)).toNat : Nat) : Int), vi k, vi j]) (fun _ => [.cells (tabK 0), .cells (tabK k)]) (fun _ => (V.agg tabW, ([] : Hp))) ?_ 0 (Nat.zero_le _) _ _ ?_
      · intro j hj R2 hR2
        rcases Nat.lt_or_ge j 4 with hj4 | hj4
        · have e2 : crcN (j + 1) (BitVec.ofNat 32 k) = crc1 (crcN j (BitVec.ofNat 32 k)) := crcN_add j 1 _
          generalize crcN j (BitVec.ofNat 32 k) = y at *
          (simp (disch:=first|decide|omega|(intros;exact Eq.trans rfl rfl)|(simp only[puri];done)) only [a138_1, ↓bit32, ↓and1, ↓tableStep, ← crc1_eq, go_sem, seval, dis])
          exact hR2 (j + 1) (by omega) (by omega) _ _ (at_head2 (by decide) (by simp only [List.map_cons, List.map_nil, go_sem, seval]; exact rfl) (by simp [idsOf, reach, place_cons, place_nil, canonH, V.ren, L.ren, Box.ren, V.refs, L.refs, Box.refs, e2, tabK_refs, tabK_ren]) (by simp [idsOf, reach, place_cons, place_nil, canonH, V.ren, L.ren, Box.ren, V.refs, L.refs, Box.refs, e2, tabK_refs, tabK_ren]))
        · have : j = 4 := by omega
          subst this
          (simp (disch:=first|decide|omega|(intros;exact Eq.trans rfl rfl)|(simp only[puri];done)) only [a138_1, ↓bit32, tabK_len, tabK_set k h, go_sem, seval, dis])
          exact hR (k + 1) (by omega) (by omega) _ _ (at_head2 (by decide) (by simp only [List.map_cons, List.map_nil, go_sem, seval]; exact rfl) (by simp [idsOf, reach, place_cons, place_nil, canonH, V.ren, L.ren, Box.ren, V.refs, L.refs, Box.refs, tabK_refs, tabK_ren]) (by simp [idsOf, reach, place_cons, place_nil, canonH, V.ren, L.ren, Box.ren, V.refs, L.refs, Box.refs, tabK_refs, tabK_ren]))
      · exact (at_head2 (by decide) (by simp only [List.map_cons, List.map_nil, go_sem, seval]; exact rfl) (by simp [idsOf, reach, place_cons, place_nil, canonH, V.ren, L.ren, Box.ren, V.refs, L.refs, Box.refs, crcN, tabK_refs, tabK_ren, e0]) (by simp [idsOf, reach, place_cons, place_nil, canonH, V.ren, L.ren, Box.ren, V.refs, L.refs, Box.refs, crcN, tabK_refs, tabK_ren, e0]))
    · have : k = 16 := by omega
      subst this
      have ed : (tabK 0).drop 16 = [] := List.drop_eq_nil_of_le (by rw [tabK_len]; exact Nat.le_refl _)
      have et : tabW.take 16 = tabW := List.take_of_length_le (by rw [tabW_len]; exact Nat.le_refl _)
      (simp (disch:=first|decide|omega|(intros;exact Eq.trans rfl rfl)|(simp only[puri];done)) only [a138_0, ↓bit32, tabK_16, tabW_len, tabK_len, ed, et, tabW_fz, tabW_pure, go_sem, seval, dis])
  · exact (at_head2 (by decide) (by simp only [List.map_cons, List.map_nil, go_sem, seval]; exact rfl) (by simp [idsOf, reach, place_cons, place_nil, canonH, V.ren, L.ren, Box.ren, V.refs, L.refs, Box.refs, tabK_0]) (by simp [idsOf, reach, place_cons, place_nil, canonH, V.ren, L.ren, Box.ren, V.refs, L.refs, Box.refs, tabK_0]))
end Go.Proofs.YtijnkmjbfekajaaGreat

namespace Go.Proofs.YtijnkmjbfekajaaGreat
open Go.Vi
theorem on_spec (sum : W32) (s : List UInt8) (hs : s.length ≤ 9223372036854775807) : call 134 [vk .u32 ((sum.toNat : Nat) : Int), vs s] [] = some (vk .u32 (((crcOn sum s).toNat : Nat) : Int), []) := by
  apply enterS s134 rfl
  have e16 : tabW.length = 16 := tabW_len
  (simp (disch:=first|decide|omega|(intros;exact Eq.trans rfl rfl)|(simp only[puri];done)) only [a134, ↓bit32, table_spec, e16, List.append_nil, go_sem, seval, dis])
  refine loop_box (σ := Nat) (fun k => s.length - k) (fun k => k ≤ s.length) (fun k => [vs s, .one (.p 0 0), vk .u32 ((((s.take k).foldl crcB (~~~sum)).toNat : Nat) : Int), vi s.length, vi k]) (fun _ => [.cells tabW]) (fun _ => (vk .u32 (((crcOn sum s).toNat : Nat) : Int), ([] : Hp))) ?_ 0 (Nat.zero_le _) _ _ (at_head2 (by decide) (by simp only [List.map_cons, List.map_nil, go_sem, seval]; exact rfl) (by simp [idsOf, reach, place_cons, place_nil, canonH, V.ren, L.ren, Box.ren, V.refs, L.refs, Box.refs, tabW_refs, tabW_ren]) (by simp [idsOf, reach, place_cons, place_nil, canonH, V.ren, L.ren, Box.ren, V.refs, L.refs, Box.refs, tabW_refs, tabW_ren]))
  intro k hk R hR
  rcases Nat.lt_or_ge k s.length with h | h
  · have e1 : (s.take (k + 1)).foldl crcB (~~~sum) = crcB ((s.take k).foldl crcB (~~~sum)) s[k] := by rw [take_succ_get s k h, List.foldl_append]; rfl
    rw [crcB_eq] at e1
    generalize (s.take k).foldl crcB (~~~sum) = x at *
    have l1 := and15_lt (x ^^^ BitVec.ofNat 32 s[k].toNat)
    have l2 := and15_lt (((x ^^^ BitVec.ofNat 32 s[k].toNat) >>> 4) ^^^ crcN 4 ((x ^^^ BitVec.ofNat 32 s[k].toNat) &&& 15#32))
    (simp (disch:=first|decide|omega|(intros;exact Eq.trans rfl rfl)|(simp only[puri];done)) only [a134_0, ↓bit32, str_get s k h, cvi32_byte, tabW_at, go_sem, seval, dis])
    exact hR (k + 1) (by omega) (by omega) _ _ (at_head2 (by decide) (by simp only [List.map_cons, List.map_nil, go_sem, seval]; exact rfl) (by simp [idsOf, reach, place_cons, place_nil, canonH, V.ren, L.ren, Box.ren, V.refs, L.refs, Box.refs, tabW_refs, tabW_ren, e1]) (by simp [idsOf, reach, place_cons, place_nil, canonH, V.ren, L.ren, Box.ren, V.refs, L.refs, Box.refs, tabW_refs, tabW_ren, e1]))
  · (simp (disch:=first|decide|omega|(intros;exact Eq.trans rfl rfl)|(simp only[puri];done)) only [a134_0, ↓bit32, go_sem, seval, dis])
    rw [List.take_of_length_le h]; rfl
def crcSum (l : List (List UInt8)) : W32 := l.foldl crcOn 0#32
def encS (s : List UInt8) : List D := [.s s]
theorem encS_len (s : List UInt8) : (encS s).length = 1 := Eq.trans rfl rfl
theorem encS_at (s : List UInt8) : (encS s)[0]? = some (.s s) := Eq.trans rfl rfl
theorem sum_spec (l : List (List UInt8)) (hl : l.length ≤ 9223372036854775807) (hs : ∀ s ∈ l, s.length ≤ 9223372036854775807) : call 123 [vl (l.map encS)] [] = some (vk .u32 (((crcSum l).toNat : Nat) : Int), []) := by
  apply enterS s123 rfl
  (simp (disch:=first|decide|omega|(intros;exact Eq.trans rfl rfl)|(simp only[puri];done)) only [a123, go_sem, seval, dis])
  refine loop_data (σ := Nat) (fun k => l.length - k) (fun k => k ≤ l.length) (fun k => [vk .u32 ((((l.take k).foldl crcOn 0#32).toNat : Nat) : Int), vl (l.map encS), vi l.length, vi k]) (fun _ => (vk .u32 (((crcSum l).toNat : Nat) : Int), [])) (fun _ => by simp only [go_sem, seval]) ?_ 0 (Nat.zero_le _) _ (by simp [go_sem, seval])
  intro k hk R hR
  rcases Nat.lt_or_ge k l.length with h | h
  · have e1 : (l.take (k + 1)).foldl crcOn 0#32 = crcOn ((l.take k).foldl crcOn 0#32) l[k] := by rw [take_succ_get l k h, List.foldl_append]; rfl
    have ho := on_spec ((l.take k).foldl crcOn 0#32) l[k] (hs _ (List.getElem_mem h))
    (simp (disch:=first|decide|omega|(intros;exact Eq.trans rfl rfl)|(simp only[puri];done)) only [a123_0, encS_len, encS_at, ho, go_sem, seval, dis])
    exact hR (k + 1) (by omega) (by omega) _ (by simp [e1, go_sem, seval])
  · (simp (disch:=first|decide|omega|(intros;exact Eq.trans rfl rfl)|(simp only[puri];done)) only [a123_0, go_sem, seval, dis])
    rw [List.take_of_length_le h]; rfl
theorem crcOn_append (x : W32) (a b : List UInt8) : crcOn x (a ++ b) = crcOn (crcOn x a) b := by
  simp only [crcOn, List.foldl_append, BitVec.not_not]
theorem crcSum2 (a b : List UInt8) : crcSum [a, b] = crcOn 0#32 (a ++ b) := by simp only [crcSum, List.foldl_cons, List.foldl_nil, crcOn_append]
end Go.Proofs.YtijnkmjbfekajaaGreat

namespace Go.Proofs.YtijnkmjbfekajaaGreat
open Go.Vi
set_option maxRecDepth 4000 in
theorem len64_spec (n : Nat) (hn : n < 18446744073709551616) : call 120 [vk .u64 ((n : Nat) : Int)] [] = some (vi (blen n), []) := by
  apply enterS s120 rfl
  have last : ∀ m : Nat, m < 256 → IntKind.u8.wrap ((m : Nat) : Int) = ((m : Nat) : Int) := fun m h => wrap_u8 (by omega)
  have tab : ∀ m : Nat, m < 256 → IntKind.i64.wrap (((UInt8.ofNat (blen m)).toNat : Nat) : Int) = ((blen m : Nat) : Int) := fun m h => by
    rw [blen_small h]
    have := (blen_le m 8).2 h
    exact wrap_i (by omega)
  have b8 : ∀ m : Nat, m < 256 → blen m ≤ 8 := fun m h => (blen_le m 8).2 h
  by_cases c0 : 4294967296 ≤ n
  · have e0 := blen_shift (n) 32 c0
    simp only [Nat.reducePow] at e0
    by_cases c1 : 65536 ≤ n / 4294967296
    · have e1 := blen_shift (n / 4294967296) 16 c1
      simp only [Nat.reducePow] at e1
      by_cases c2 : 256 ≤ n / 4294967296 / 65536
      · have e2 := blen_shift (n / 4294967296 / 65536) 8 c2
        simp only [Nat.reducePow] at e2
        have hm : n / 4294967296 / 65536 / 256 < 256 := by omega
        have := b8 _ hm
        have e : ((blen n : Nat) : Int) = 32 + 16 + 8 + ((blen (n / 4294967296 / 65536 / 256) : Nat) : Int) := by omega
        rw [e]
        (simp (disch:=first|decide|omega|(intros;exact Eq.trans rfl rfl)|(simp only[puri];done)) only [a120, ↓shr64_32, ↓shr64_16, ↓shr64_8, last _ hm, len8_all _ hm, tab _ hm, Int.zero_add, go_sem, seval, dis])
      · skip
        have hm : n / 4294967296 / 65536 < 256 := by omega
        have := b8 _ hm
        have e : ((blen n : Nat) : Int) = 32 + 16 + ((blen (n / 4294967296 / 65536) : Nat) : Int) := by omega
        rw [e]
        (simp (disch:=first|decide|omega|(intros;exact Eq.trans rfl rfl)|(simp only[puri];done)) only [a120, ↓shr64_32, ↓shr64_16, ↓shr64_8, last _ hm, len8_all _ hm, tab _ hm, Int.zero_add, go_sem, seval, dis])
    · skip
      by_cases c2 : 256 ≤ n / 4294967296
      · have e2 := blen_shift (n / 4294967296) 8 c2
        simp only [Nat.reducePow] at e2
        have hm : n / 4294967296 / 256 < 256 := by omega
        have := b8 _ hm
        have e : ((blen n : Nat) : Int) = 32 + 8 + ((blen (n / 4294967296 / 256) : Nat) : Int) := by omega
        rw [e]
        (simp (disch:=first|decide|omega|(intros;exact Eq.trans rfl rfl)|(simp only[puri];done)) only [a120, ↓shr64_32, ↓shr64_16, ↓shr64_8, last _ hm, len8_all _ hm, tab _ hm, Int.zero_add, go_sem, seval, dis])
      · skip
        have hm : n / 4294967296 < 256 := by omega
        have := b8 _ hm
        have e : ((blen n : Nat) : Int) = 32 + ((blen (n / 4294967296) : Nat) : Int) := by omega
        rw [e]
        (simp (disch:=first|decide|omega|(intros;exact Eq.trans rfl rfl)|(simp only[puri];done)) only [a120, ↓shr64_32, ↓shr64_16, ↓shr64_8, last _ hm, len8_all _ hm, tab _ hm, Int.zero_add, go_sem, seval, dis])
  · skip
    by_cases c1 : 65536 ≤ n
    · have e1 := blen_shift (n) 16 c1
      simp only [Nat.reducePow] at e1
      by_cases c2 : 256 ≤ n / 65536
      · have e2 := blen_shift (n / 65536) 8 c2
        simp only [Nat.reducePow] at e2
        have hm : n / 65536 / 256 < 256 := by omega
        have := b8 _ hm
        have e : ((blen n : Nat) : Int) = 16 + 8 + ((blen (n / 65536 / 256) : Nat) : Int) := by omega
        rw [e]
        (simp (disch:=first|decide|omega|(intros;exact Eq.trans rfl rfl)|(simp only[puri];done)) only [a120, ↓shr64_32, ↓shr64_16, ↓shr64_8, last _ hm, len8_all _ hm, tab _ hm, Int.zero_add, go_sem, seval, dis])
      · skip
        have hm : n / 65536 < 256 := by omega
        have := b8 _ hm
        have e : ((blen n : Nat) : Int) = 16 + ((blen (n / 65536) : Nat) : Int) := by omega
        rw [e]
        (simp (disch:=first|decide|omega|(intros;exact Eq.trans rfl rfl)|(simp only[puri];done)) only [a120, ↓shr64_32, ↓shr64_16, ↓shr64_8, last _ hm, len8_all _ hm, tab _ hm, Int.zero_add, go_sem, seval, dis])
    · skip
      by_cases c2 : 256 ≤ n
      · have e2 := blen_shift (n) 8 c2
        simp only [Nat.reducePow] at e2
        have hm : n / 256 < 256 := by omega
        have := b8 _ hm
        have e : ((blen n : Nat) : Int) = 8 + ((blen (n / 256) : Nat) : Int) := by omega
        rw [e]
        (simp (disch:=first|decide|omega|(intros;exact Eq.trans rfl rfl)|(simp only[puri];done)) only [a120, ↓shr64_32, ↓shr64_16, ↓shr64_8, last _ hm, len8_all _ hm, tab _ hm, Int.zero_add, go_sem, seval, dis])
      · skip
        have hm : n < 256 := by omega
        have := b8 _ hm
        have e : ((blen n : Nat) : Int) = ((blen (n) : Nat) : Int) := by omega
        rw [e]
        (simp (disch:=first|decide|omega|(intros;exact Eq.trans rfl rfl)|(simp only[puri];done)) only [a120, ↓shr64_32, ↓shr64_16, ↓shr64_8, last _ hm, len8_all _ hm, tab _ hm, Int.zero_add, go_sem, seval, dis])
theorem len_spec (n : Nat) (hn : n < 9223372036854775808) : call 87 [vi n] [] = some (vi (nd n), []) := by
  apply enterS s87 rfl
  have h64 := len64_spec n (by omega)
  have hb : blen n ≤ 63 := (blen_le n 63).2 (by omega)
  have hq : (((blen n : Nat) : Int) + 6).tdiv 7 = (((blen n + 6) / 7 : Nat) : Int) := by rw [Int.tdiv_eq_ediv_of_nonneg (by omega)]; omega
  have hm := nd_blen n
  by_cases c : 1 < (blen n + 6) / 7
  · have e : nd n = (blen n + 6) / 7 := by omega
    rw [e]
    (simp (disch:=first|decide|omega|(intros;exact Eq.trans rfl rfl)|(simp only[puri];done)) only [a87, h64, hq, go_sem, seval, dis])
  · have e : nd n = 1 := by omega
    have c' : ¬ (((blen n + 6) / 7 : Nat) : Int) > 1 := by omega
    rw [e]
    (simp (disch:=first|decide|omega|(intros;exact Eq.trans rfl rfl)|(simp only[puri];done)) only [a87, h64, hq, if_neg c', go_sem, seval, dis])
    try rfl
end Go.Proofs.YtijnkmjbfekajaaGreat

namespace Go.Proofs.YtijnkmjbfekajaaGreat
open Go.Vi
theorem put_spec (n : Nat) (hn : n < 9223372036854775808) : call 95 [vi n] [] = some (vs (enc128 n), []) := by
  apply enterS s95 rfl
  have hl := len_spec n hn
  have h9 := nd_le9 hn
  obtain ⟨m, hm⟩ : ∃ m, nd n = m + 1 := ⟨nd n - 1, by have := nd_pos n; omega⟩
  have hlast := putR_last n m hm
  have hlt : n / 128 ^ m < 128 := by
    have := ((nd_range m n).1 hm).1
    rw [Nat.div_lt_iff_lt_mul (Nat.pow_pos (by decide))]
    rwa [Nat.pow_succ, Nat.mul_comm] at this
  rw [hm] at hl h9
  (simp (disch:=first|decide|omega|(intros;exact Eq.trans rfl rfl)|(simp only[puri];done)) only [a95, hl, Int.mul_one, go_sem, seval, dis])
  refine loop_box (σ := Nat) (fun k => m + 1 - k) (fun k => k ≤ m + 1) (fun k => [vi n, .one (.sl 0 1 0 (m + 1)), vi ((m + 1 : Nat) : Int), vi k]) (fun k => [.arr 1 (putR n (m + 1) k) 0]) (fun _ => (vs (enc128 n), ([] : Hp))) ?_ 0 (Nat.zero_le _) _ _ (at_head2 (by decide) (by simp only [List.map_cons, List.map_nil, go_sem, seval]; exact rfl) (by simp [idsOf, reach, place_cons, place_nil, canonH, V.ren, L.ren, Box.ren, V.refs, L.refs, Box.refs, putR_zero]) (by simp [idsOf, reach, place_cons, place_nil, canonH, V.ren, L.ren, Box.ren, V.refs, L.refs, Box.refs, putR_zero]))
  intro k hk R hR
  rcases Nat.lt_or_ge k (m + 1) with h | h
  · have hsh : binD .shr (.i .i64 ((n : Nat) : Int)) (.i .u64 (7 * ((k : Nat) : Int))) = some (.i .i64 ((n / 2 ^ (7 * k) : Nat) : Int)) := shr_nat .i64 .u64 n (7 * k) (by show 7 * k ≤ 64; omega)
    have e2 : (2 : Nat) ^ (7 * k) = 128 ^ k := by rw [Nat.pow_mul]
    have hg := putR_get n (m + 1) k k h
    have hs := putR_set n (m + 1) k h
    rw [e2] at hsh
    (simp (disch:=first|decide|omega|(intros;exact Eq.trans rfl rfl)|(simp only[puri];done)) only [a95_0, ↓hsh, wrap8_nat, ↓or8, hg, hs, go_sem, seval, dis])
    exact hR (k + 1) (by omega) (by omega) _ _ (at_head2 (by decide) (by simp only [List.map_cons, List.map_nil, go_sem, seval]; exact rfl) (by simp [idsOf, reach, place_cons, place_nil, canonH, V.ren, L.ren, Box.ren, V.refs, L.refs, Box.refs, true_and]) (by simp [idsOf, reach, place_cons, place_nil, canonH, V.ren, L.ren, Box.ren, V.refs, L.refs, Box.refs, true_and]))
  · have hk' : k = m + 1 := by omega
    subst hk'
    have hg := putR_get n (m + 1) (m + 1) m (by omega)
    have hd : putD n (m + 1) m = 128 + n / 128 ^ m := by unfold putD; rw [if_pos (by omega), Nat.mod_eq_of_lt hlt]
    rw [hd] at hg
    generalize n / 128 ^ m = q at hlast hlt hg
    have ha := and8 (128 + q) (by omega)
    have hmod : (128 + q) % 128 = q := by omega
    rw [hmod] at ha
    have hpl := putR_len n (m + 1) (m + 1)
    have hw : IntKind.i64.wrap (((m + 1 : Nat) : Int) - 1) = ((m : Nat) : Int) := by rw [wrap_i (by omega)]; omega
    have hel : (enc128 n).length = m + 1 := hm
    have htk : (rowsOfBytes (enc128 n)).take (m + 1) = rowsOfBytes (enc128 n) := List.take_of_length_le (by rw [rowsOfBytes_len, hel]; exact Nat.le_refl _)
    (simp (disch:=first|decide|omega|(intros;exact Eq.trans rfl rfl)|(simp only[puri];done)) only [a95_0, hw, hg, ↓ha, hlast, hpl, rowsOfBytes_len, hel, htk, bytesOf_rows, go_sem, seval, dis])
theorem refPut_spec (n : Nat) (hn : n < 9223372036854775808) : call 88 [vi n] [] = some (vs (enc128 n), []) := by
  apply enterS s88 rfl
  (simp (disch:=first|decide|omega|(intros;exact Eq.trans rfl rfl)|(simp only[puri];done)) only [a88, go_sem, seval, dis])
  refine loop_box (σ := Nat × List UInt8) (fun s => s.1) (fun s => s.1 < 9223372036854775808 ∧ s.2 ++ enc128 s.1 = enc128 n ∧ s.2.length + nd s.1 ≤ 9) (fun s => [vi s.1, vs s.2]) (fun _ => []) (fun _ => (vs (enc128 n), ([] : Hp))) ?_ (n, []) ⟨hn, rfl, by simpa using nd_le9 hn⟩ _ _ (at_head2 (by decide) (by simp only [List.map_cons, List.map_nil, go_sem, seval]; exact rfl) (by simp [idsOf, reach, place_cons, place_nil, canonH, V.ren, L.ren, Box.ren, V.refs, L.refs, Box.refs, true_and]) (by simp [idsOf, reach, place_cons, place_nil, canonH, V.ren, L.ren, Box.ren, V.refs, L.refs, Box.refs, true_and]))
  rintro ⟨k, l⟩ ⟨hk, he, hl⟩ R hR
  simp only at hk he hl
  rcases Nat.lt_or_ge k 128 with h | h
  · rw [enc_small h] at he
    have hnd := nd_pos k
    (simp (disch:=first|decide|omega|(intros;exact Eq.trans rfl rfl)|(simp only[puri];done)) only [a88_0, wrap8_nat, bytesOf_nil, bytesOf_cons, byte_mod, go_sem, seval, dis])
    rw [he]
  · have hq : ((k : Nat) : Int).tdiv 128 = ((k / 128 : Nat) : Int) := by rw [Int.tdiv_eq_ediv_of_nonneg (by omega)]; omega
    have hr : ((k : Nat) : Int).tmod 128 = ((k % 128 : Nat) : Int) := by rw [Int.tmod_eq_emod_of_nonneg (by omega)]; omega
    rw [enc_big (by omega)] at he
    rw [nd_big (by omega)] at hl
    have hw : IntKind.u8.wrap (128 + ((k % 128 : Nat) : Int)) = ((128 + k % 128 : Nat) : Int) := by rw [wrap_u8 (by omega)]; omega
    have hb : UInt8.ofNat (((128 + k % 128 : Nat) : Int)).toNat = UInt8.ofNat (128 + k % 128) := rfl
    (simp (disch:=first|decide|omega|(intros;exact Eq.trans rfl rfl)|(simp only[puri];done)) only [a88_0, hq, hr, hw, bytesOf_nil, bytesOf_cons, go_sem, seval, dis])
    exact hR (k / 128, l ++ [UInt8.ofNat (128 + k % 128)]) (by simp only []; omega) ⟨by simp only []; omega, by simp only []; rw [List.append_assoc]; exact he, by simp only [List.length_append, List.length_cons, List.length_nil]; omega⟩ _ _ (at_head2 (by decide) (by simp only [List.map_cons, List.map_nil, go_sem, seval]; exact rfl) (by simp [idsOf, reach, place_cons, place_nil, canonH, V.ren, L.ren, Box.ren, V.refs, L.refs, Box.refs, true_and]) (by simp [idsOf, reach, place_cons, place_nil, canonH, V.ren, L.ren, Box.ren, V.refs, L.refs, Box.refs, true_and]))
end Go.Proofs.YtijnkmjbfekajaaGreat

namespace Go.Proofs.YtijnkmjbfekajaaGreat
open Go.Vi
def rdV (a : Nat) : Option (Nat × Nat) → V
  | some (n, k) => .tup [(false, [.d (.i .i64 n)]), (false, [.d (.i .i64 ((a + k : Nat) : Int))]), (false, [.d (.b true)])]
  | none => .tup [(false, [.d (.i .i64 0)]), (false, [.d (.i .i64 0)]), (false, [.d (.b false)])]
theorem shl64 (c i : Nat) (hc : c < 128) (hi : i ≤ 8) : binD .shl (.i .i64 ((c : Nat) : Int)) (.i .u64 (7 * ((i : Nat) : Int))) = some (.i .i64 ((c * 2 ^ (7 * i) : Nat) : Int)) ∧ c * 2 ^ (7 * i) + 2 ^ (7 * i) ≤ 9223372036854775808 := by
  have h2 : 2 ^ (7 * i) ≤ 2 ^ 56 := Nat.pow_le_pow_right (by decide) (by omega)
  have h3 : (c + 1) * 2 ^ (7 * i) ≤ 128 * 2 ^ 56 := Nat.mul_le_mul (by omega) h2
  have h4 : (128 : Nat) * 2 ^ 56 = 9223372036854775808 := by decide
  have h5 : (c + 1) * 2 ^ (7 * i) = c * 2 ^ (7 * i) + 2 ^ (7 * i) := by rw [Nat.add_mul, Nat.one_mul]
  refine ⟨?_, by omega⟩
  have hp : 0 < 2 ^ (7 * i) := Nat.pow_pos (by decide)
  simp only [binD]
  rw [if_neg (by omega)]
  have e1 : (7 * ((i : Nat) : Int)).toNat = 7 * i := by omega
  have e2 : min (7 * i) IntKind.i64.bits = 7 * i := Nat.min_eq_left (by show 7 * i ≤ 64; omega)
  rw [e1, e2]
  have e3 : ((c : Nat) : Int) * 2 ^ (7 * i) = ((c * 2 ^ (7 * i) : Nat) : Int) := by simp
  rw [e3, wrap_i (by omega)]
theorem rdF_nil (i n : Nat) : rdF [] i n = none := rfl
theorem rdF_cons (c : UInt8) (r : List UInt8) (i n : Nat) : rdF (c :: r) i n = if 9 ≤ i then none else if 128 ≤ c.toNat then rdF r (i + 1) (n + c.toNat % 128 * 128 ^ i) else if c.toNat = 0 ∧ 0 < i then none else some (n + c.toNat * 128 ^ i, i + 1) := rfl
set_option maxRecDepth 4000 in
theorem read_spec (s : List UInt8) (a : Nat) (ha : a < 9223372036854775808) (hs : s.length ≤ 9223372036854775807) : call 129 [vs s, vi a] [] = some (rdV a (rdF (s.drop a) 0 0), []) := by
  apply enterS s129 rfl
  (simp (disch:=first|decide|omega|(intros;exact Eq.trans rfl rfl)|(simp only[puri];done)) only [a129, go_sem, seval, dis])
  refine loop_data (σ := Nat × Nat) (fun t => 9 - t.1) (fun t => t.1 ≤ 9 ∧ t.2 < 128 ^ t.1) (fun t => [vs s, vi a, vi t.2, vi t.1]) (fun t => (rdV a (rdF (s.drop (a + t.1)) t.1 t.2), ([] : Hp))) (fun _ => by simp only [go_sem, seval]) ?_ (0, 0) ⟨by decide, by decide⟩ _ (by simp [go_sem, seval])
  rintro ⟨i, n⟩ ⟨hi, hn⟩ R hR
  simp only at hi hn
  rcases Nat.lt_or_ge (a + i) s.length with h | h
  · rcases Nat.lt_or_ge i 9 with h9 | h9
    · simp only [List.drop_eq_getElem_cons h, rdF_cons]
      rw [if_neg (by omega)]
      obtain ⟨c, hc⟩ : ∃ c, c = s[a + i] := ⟨_, rfl⟩
      rw [← hc]
      have hg : s[a + i]? = some c := by rw [hc]; simp [h]
      have hc8 := c.toNat_lt
      have hm : c.toNat % 128 < 128 := Nat.mod_lt _ (by decide)
      obtain ⟨hsh, hbd⟩ := shl64 (c.toNat % 128) i hm (by omega)
      have hp : (2 : Nat) ^ (7 * i) = 128 ^ i := by rw [Nat.pow_mul]
      have hand := and8 c.toNat (by omega)
      have hor := or64 n (c.toNat % 128) (7 * i) (by rw [hp]; exact hn) (by rw [hp] at hbd ⊢; omega)
      rw [hp] at hsh hor hbd
      have hidx : (((a : Nat) : Int) + ((i : Nat) : Int)).toNat = a + i := by omega
      have hnat : ((a + (i + 1) : Nat) : Int) = (a : Int) + (i : Int) + 1 := by omega
      have hnx : n + c.toNat % 128 * 128 ^ i < 128 ^ (i + 1) := by
        have := Nat.mul_le_mul_right (128 ^ i) (by omega : c.toNat % 128 + 1 ≤ 128)
        rw [Nat.pow_succ, Nat.mul_comm (128 ^ i) 128]
        rw [Nat.add_mul, Nat.one_mul] at this
        omega
      rcases Nat.lt_or_ge c.toNat 128 with h1 | h1
      · rw [if_neg (by omega)]
        have hmm : c.toNat % 128 = c.toNat := Nat.mod_eq_of_lt h1
        rw [hmm] at hand hsh hor
        by_cases h0 : c.toNat = 0
        · by_cases hi0 : 0 < i
          · rw [if_pos ⟨h0, hi0⟩]
            (simp (disch:=first|decide|omega|(intros;exact Eq.trans rfl rfl)|(simp only[puri];done)) only [a129_0, hidx, hg, ↓hand, ↓hsh, ↓hor, rdV, go_sem, seval, dis])
          · rw [if_neg (by omega)]
            (simp (disch:=first|decide|omega|(intros;exact Eq.trans rfl rfl)|(simp only[puri];done)) only [a129_0, hidx, hg, ↓hand, ↓hsh, ↓hor, hnat, rdV, go_sem, seval, dis])
        · rw [if_neg (by omega)]
          (simp (disch:=first|decide|omega|(intros;exact Eq.trans rfl rfl)|(simp only[puri];done)) only [a129_0, hidx, hg, ↓hand, ↓hsh, ↓hor, hnat, rdV, go_sem, seval, dis])
      · rw [if_pos h1]
        (simp (disch:=first|decide|omega|(intros;exact Eq.trans rfl rfl)|(simp only[puri];done)) only [a129_0, hidx, hg, ↓hand, ↓hsh, ↓hor, go_sem, seval, dis])
        exact hR (i + 1, n + c.toNat % 128 * 128 ^ i) (by simp only []; omega) ⟨by simp only []; omega, hnx⟩ _ (by simp [go_sem, seval])
    · have e : rdF (s.drop (a + i)) i n = none := by
        rw [List.drop_eq_getElem_cons h, rdF_cons, if_pos h9]
      simp only [e]
      (simp (disch:=first|decide|omega|(intros;exact Eq.trans rfl rfl)|(simp only[puri];done)) only [a129_0, rdV, go_sem, seval, dis])
  · simp only [List.drop_eq_nil_of_le h, rdF_nil]
    rcases Nat.lt_or_ge i 9 with h9 | h9
    · (simp (disch:=first|decide|omega|(intros;exact Eq.trans rfl rfl)|(simp only[puri];done)) only [a129_0, rdV, go_sem, seval, dis])
    · (simp (disch:=first|decide|omega|(intros;exact Eq.trans rfl rfl)|(simp only[puri];done)) only [a129_0, rdV, go_sem, seval, dis])
end Go.Proofs.YtijnkmjbfekajaaGreat

namespace Go.Proofs.YtijnkmjbfekajaaGreat
open Go.Vi
end Go.Proofs.YtijnkmjbfekajaaGreat

namespace Go.Proofs.YtijnkmjbfekajaaGreat
open Go.Vi
theorem fits_spec (n : Int) : call 119 [vi n] [] = some (vb (decide (1 ≤ n) && decide (n ≤ 65536)), []) := by
  apply enterS s119 rfl
  by_cases c : 1 ≤ n
  · (simp (disch:=first|decide|omega|(intros;exact Eq.trans rfl rfl)|(simp only[puri];done)) only [a119, c, go_sem, seval, dis])
  · (simp (disch:=first|decide|omega|(intros;exact Eq.trans rfl rfl)|(simp only[puri];done)) only [a119, c, Bool.false_and, go_sem, seval, dis])
theorem size_spec (n : Int) : call 86 [vi n] [] = some (vi (sizeF n), []) := by
  apply enterS s86 rfl
  have hf := fits_spec n
  by_cases c : 1 ≤ n ∧ n ≤ 65536
  · rw [decide_eq_true c.1, decide_eq_true c.2] at hf
    obtain ⟨k, rfl⟩ : ∃ k : Nat, n = k := ⟨n.toNat, by omega⟩
    have hl := len_spec k (by omega)
    have h9 := nd_le9 (n := k) (by omega)
    unfold sizeF
    rw [if_pos c, Int.toNat_natCast]
    (simp (disch:=first|decide|omega|(intros;exact Eq.trans rfl rfl)|(simp only[puri];done)) only [a86, hf, hl, go_sem, seval, dis])
  · have hf' : (decide (1 ≤ n) && decide (n ≤ 65536)) = false := by rw [Bool.and_eq_false_iff, decide_eq_false_iff_not, decide_eq_false_iff_not]; omega
    rw [hf'] at hf
    unfold sizeF
    rw [if_neg c]
    (simp (disch:=first|decide|omega|(intros;exact Eq.trans rfl rfl)|(simp only[puri];done)) only [a86, hf, go_sem, seval, dis])
def putV (b : List UInt8) : V := if 1 ≤ b.length ∧ b.length ≤ 65536 then .tup [(false, [.d (.s (frameF b))]), (false, [.d (.i .i64 0)])] else .tup [(false, [.d (.s [])]), (false, [.d (.i .i64 5)])]
theorem crc2_spec (a b : List UInt8) (ha : a.length ≤ 9223372036854775807) (hb : b.length ≤ 9223372036854775807) : call 123 [vl [[.s a], [.s b]]] [] = some (vk .u32 (((crcOn 0#32 (a ++ b)).toNat : Nat) : Int), []) := by
  have := sum_spec [a, b] (by simp) (by intro s hs; simp at hs; rcases hs with rfl | rfl <;> assumption)
  rw [crcSum2] at this
  exact this
theorem putFrame_spec (b : List UInt8) (hb : b.length ≤ 9223372036854775807) : call 94 [vs b] [] = some (putV b, []) := by
  apply enterS s94 rfl
  have hf := fits_spec b.length
  unfold putV
  by_cases c : 1 ≤ b.length ∧ b.length ≤ 65536
  · have e1 : decide (1 ≤ (b.length : Int)) = true := by simp; omega
    have e2 : decide ((b.length : Int) ≤ 65536) = true := by simp; omega
    rw [e1, e2] at hf
    have hp := put_spec b.length (by omega)
    have hel : (enc128 b.length).length ≤ 9 := nd_le9 (n := b.length) (by omega)
    have hs := crc2_spec (enc128 b.length) b (by omega) hb
    have h4 := four_spec (crcOn 0#32 (enc128 b.length ++ b))
    have l4 := four_len (crcOn 0#32 (enc128 b.length ++ b))
    rw [if_pos c]
    (simp (disch:=first|decide|omega|(intros;exact Eq.trans rfl rfl)|(simp only[puri];done)) only [a94, hf, hp, hs, h4, l4, frameF, go_sem, seval, dis])
  · have hf' : (decide (1 ≤ (b.length : Int)) && decide ((b.length : Int) ≤ 65536)) = false := by rw [Bool.and_eq_false_iff, decide_eq_false_iff_not, decide_eq_false_iff_not]; omega
    rw [hf'] at hf
    rw [if_neg c]
    (simp (disch:=first|decide|omega|(intros;exact Eq.trans rfl rfl)|(simp only[puri];done)) only [a94, hf, go_sem, seval, dis])
theorem refPutFrame_spec (b : List UInt8) (hb : b.length ≤ 9223372036854775807) : call 89 [vs b] [] = some (putV b, []) := by
  apply enterS s89 rfl
  unfold putV
  by_cases c : 1 ≤ b.length
  · by_cases c2 : b.length ≤ 65536
    · have hp := refPut_spec b.length (by omega)
      have hel : (enc128 b.length).length ≤ 9 := nd_le9 (n := b.length) (by omega)
      have hs := refOf_spec (enc128 b.length ++ b) (by simp; omega)
      have h4 := refFour_spec (crcOn 0#32 (enc128 b.length ++ b))
      have l4 := four_len (crcOn 0#32 (enc128 b.length ++ b))
      rw [if_pos ⟨c, c2⟩]
      (simp (disch:=first|decide|omega|(intros;exact Eq.trans rfl rfl)|(simp only[puri];done)) only [a89, hp, hs, h4, l4, frameF, go_sem, seval, dis])
    · rw [if_neg (by omega)]
      (simp (disch:=first|decide|omega|(intros;exact Eq.trans rfl rfl)|(simp only[puri];done)) only [a89, go_sem, seval, dis])
  · rw [if_neg (by omega)]
    (simp (disch:=first|decide|omega|(intros;exact Eq.trans rfl rfl)|(simp only[puri];done)) only [a89, go_sem, seval, dis])
theorem open_spec (l : List UInt8) (hl : l.length ≤ 9223372036854775807) : call 128 [vs l] [] = some (vb (openF l), []) := by
  apply enterS s128 rfl
  by_cases c : l.length ≤ 8
  · have e : openF l = (l.drop 0).all fun c => decide (128 ≤ c.toNat) := by simp [openF, c]
    rw [e]
    (simp (disch:=first|decide|omega|(intros;exact Eq.trans rfl rfl)|(simp only[puri];done)) only [a128, go_sem, seval, dis])
    refine loop_data (σ := Nat) (fun k => l.length - k) (fun k => k ≤ l.length) (fun k => [vs l, vi l.length, vi k]) (fun k => (vb ((l.drop k).all fun c => decide (128 ≤ c.toNat)), ([] : Hp))) (fun _ => by simp only [go_sem, seval]) ?_ 0 (Nat.zero_le _) _ (by simp [go_sem, seval])
    intro k hk R hR
    rcases Nat.lt_or_ge k l.length with h | h
    · simp only [List.drop_eq_getElem_cons h, List.all_cons]
      by_cases c1 : 128 ≤ l[k].toNat
      · rw [decide_eq_true c1, Bool.true_and]
        (simp (disch:=first|decide|omega|(intros;exact Eq.trans rfl rfl)|(simp only[puri];done)) only [a128_0, str_get l k h, go_sem, seval, dis])
        exact hR (k + 1) (by first | omega | (simp only []; omega)) (by first | omega | (simp only []; omega)) _ (by simp [go_sem, seval])
      · rw [decide_eq_false c1, Bool.false_and]
        (simp (disch:=first|decide|omega|(intros;exact Eq.trans rfl rfl)|(simp only[puri];done)) only [a128_0, str_get l k h, go_sem, seval, dis])
    · (simp (disch:=first|decide|omega|(intros;exact Eq.trans rfl rfl)|(simp only[puri];done)) only [a128_0, List.drop_eq_nil_of_le h, List.all_nil, go_sem, seval, dis])
  · have e : openF l = false := by simp [openF, c]
    rw [e]
    (simp (disch:=first|decide|omega|(intros;exact Eq.trans rfl rfl)|(simp only[puri];done)) only [a128, go_sem, seval, dis])
end Go.Proofs.YtijnkmjbfekajaaGreat

namespace Go.Proofs.YtijnkmjbfekajaaGreat
open Go.Vi
def nextV (r : List UInt8 × Nat × Int) : V := .tup [(false, [.d (.s r.1)]), (false, [.d (.i .i64 ((r.2.1 : Nat) : Int))]), (false, [.d (.i .i64 r.2.2)])]
theorem fits_nat (n : Nat) : call 119 [vi n] [] = some (vb (fitsN n), []) := by
  have := fits_spec n
  have e : (decide (1 ≤ (n : Int)) && decide ((n : Int) ≤ 65536)) = fitsN n := by
    unfold fitsN
    congr 1 <;> (rw [decide_eq_decide]; omega)
  rwa [e] at this
set_option maxRecDepth 8000 in
theorem next_spec (s : List UInt8) (a : Nat) (ha : a < 9223372036854775808) (hs : s.length ≤ 4611686018427387904) : call 116 [vs s, vi a] [] = some (nextV (nextF s a), []) := by
  apply enterS s116 rfl
  unfold nextF
  rcases Nat.lt_or_ge a s.length with hal | hal
  · have ho := open_spec (s.drop a) (by simp; omega)
    cases hop : openF (s.drop a) with
    | true =>
      rw [hop] at ho
      rw [if_pos (.inr rfl)]
      (simp (disch:=first|decide|omega|(intros;exact Eq.trans rfl rfl)|(simp only[puri];done)) only [a116, ho, nextV, go_sem, seval, dis])
      try rfl
    | false =>
      rw [hop] at ho
      rw [if_neg (by simp; omega)]
      have hrd := read_spec s a ha (by omega)
      cases hr : rdF (s.drop a) 0 0 with
      | none =>
        rw [hr] at hrd
        (simp (disch:=first|decide|omega|(intros;exact Eq.trans rfl rfl)|(simp only[puri];done)) only [a116, ho, hrd, rdV, nextV, go_sem, seval, dis])
        try rfl
      | some q =>
        obtain ⟨n, k⟩ := q
        rw [hr] at hrd
        obtain ⟨te, t1, t2, t3⟩ := take_drop_enc hr
        have hft := fits_nat n
        dsimp only
        by_cases hfn : fitsN n = false
        · rw [hfn] at hft
          rw [if_pos hfn]
          (simp (disch:=first|decide|omega|(intros;exact Eq.trans rfl rfl)|(simp only[puri];done)) only [a116, ho, hrd, rdV, hft, nextV, go_sem, seval, dis])
          try rfl
        · have hfn : fitsN n = true := by simpa using hfn
          rw [hfn] at hft
          have hn : 1 ≤ n ∧ n ≤ 65536 := by simpa [fitsN] using hfn
          have e1 : ((a + k : Nat) : Int) + 4 = ((a + k + 4 : Nat) : Int) := rfl
          have e3 : ((a + k + 4 : Nat) : Int) + ((n : Nat) : Int) = ((a + k + 4 + n : Nat) : Int) := rfl
          have e4 : IntKind.i64.wrap (((a + k + 4 : Nat) : Int) - 4) = ((a + k : Nat) : Int) := by rw [wrap_i (by omega)]; omega
          rw [if_neg (by rw [hfn]; decide)]
          by_cases hsh : s.length < a + k + 4 + n
          · rw [if_pos hsh]
            (simp (disch:=first|decide|omega|(intros;exact Eq.trans rfl rfl)|(simp only[puri];done)) only [a116, ho, hrd, rdV, hft, nextV, e1, go_sem, seval, dis])
            try rfl
          · rw [if_neg hsh]
            have hcs := crc2_spec (enc128 n) ((s.take (a + k + 4 + n)).drop (a + k + 4)) (by have : (enc128 n).length ≤ 9 := nd_le9 (n := n) (by omega); omega) (by simp; omega)
            have h4 := four_spec (crcOn 0#32 (enc128 n ++ (s.take (a + k + 4 + n)).drop (a + k + 4)))
            by_cases hq : four (crcOn 0#32 (enc128 n ++ (s.take (a + k + 4 + n)).drop (a + k + 4))) = (s.take (a + k + 4)).drop (a + k)
            · have hb : (four (crcOn 0#32 (enc128 n ++ (s.take (a + k + 4 + n)).drop (a + k + 4))) == (s.take (a + k + 4)).drop (a + k)) = true := by rw [beq_iff_eq]; exact hq
              rw [if_pos hq]
              (simp (disch:=first|decide|omega|(intros;exact Eq.trans rfl rfl)|(simp only[puri];done)) only [a116, ho, hrd, rdV, hft, nextV, e1, e3, e4, te, hcs, h4, hb, go_sem, seval, dis])
            · have hb : (four (crcOn 0#32 (enc128 n ++ (s.take (a + k + 4 + n)).drop (a + k + 4))) == (s.take (a + k + 4)).drop (a + k)) = false := by rw [beq_eq_false_iff_ne]; exact hq
              rw [if_neg hq]
              (simp (disch:=first|decide|omega|(intros;exact Eq.trans rfl rfl)|(simp only[puri];done)) only [a116, ho, hrd, rdV, hft, nextV, e1, e3, e4, te, hcs, h4, hb, go_sem, seval, dis])
              try rfl
  · rw [if_pos (.inl hal)]
    (simp (disch:=first|decide|omega|(intros;exact Eq.trans rfl rfl)|(simp only[puri];done)) only [a116, nextV, go_sem, seval, dis])
    try rfl
end Go.Proofs.YtijnkmjbfekajaaGreat

namespace Go.Proofs.YtijnkmjbfekajaaGreat
open Go.Vi
structure Rec where
  at_ : Int
  ti : Int
  da : List UInt8
  deriving DecidableEq
def Rec.enc (e : Rec) : List D := [.i .i64 e.at_, .i .i64 e.ti, .s e.da]
theorem Rec.len (e : Rec) : e.enc.length = 3 := Eq.trans rfl rfl
theorem Rec.tk (e : Rec) : e.enc.take 3 = e.enc := Eq.trans rfl rfl
theorem Rec.tkL (e : Rec) : (e.enc.map L.d).take 3 = e.enc.map L.d := Eq.trans rfl rfl
theorem Rec.dat (e : Rec) : dataLs (e.enc.map L.d) = some (e.enc.map L.d) := Eq.trans rfl rfl
theorem Rec.lenL (e : Rec) : (e.enc.map L.d).length = 3 := Eq.trans rfl rfl
theorem Rec.at0 (e : Rec) : e.enc[0]? = some (.i .i64 e.at_) := Eq.trans rfl rfl
theorem Rec.fd0 (e : Rec) : (e.enc.map L.d)[0]? = some (.d (.i .i64 e.at_)) := Eq.trans rfl rfl
theorem Rec.at1 (e : Rec) : (e.enc.drop 1)[0]? = some (.i .i64 e.ti) := Eq.trans rfl rfl
theorem Rec.fd1 (e : Rec) : (e.enc.map L.d)[1]? = some (.d (.i .i64 e.ti)) := Eq.trans rfl rfl
theorem Rec.at2 (e : Rec) : (e.enc.drop 2)[0]? = some (.s e.da) := Eq.trans rfl rfl
theorem Rec.fd2 (e : Rec) : (e.enc.map L.d)[2]? = some (.d (.s e.da)) := Eq.trans rfl rfl
theorem Rec.up1 (e : Rec) (x : Int) : e.enc.take 1 ++ [.i .i64 x] ++ e.enc.drop 2 = ({ e with ti := x } : Rec).enc := Eq.trans rfl rfl
theorem Rec.up2 (e : Rec) (x : List UInt8) : e.enc.take 2 ++ [.s x] ++ e.enc.drop 3 = ({ e with da := x } : Rec).enc := Eq.trans rfl rfl
def Rec.ok (e : Rec) : Prop := (-9223372036854775808 ≤ e.at_ ∧ e.at_ < 9223372036854775808) ∧ (-9223372036854775808 ≤ e.ti ∧ e.ti < 9223372036854775808) ∧ e.da.length ≤ 9223372036854775807
def Rec.ty : List Ty := [.i .i64, .i .i64, .s]
theorem Rec.eqs (a b : Rec) : scEqs [0, 0, 2] (a.enc.map L.d) (b.enc.map L.d) = some (decide (a = b)) := by
  cases a; cases b
  simp only [Rec.enc, List.map_cons, List.map_nil, scEqs, scEq, if_true, Rec.mk.injEq]
  congr 1
  rw [Bool.eq_iff_iff]
  simp only [Bool.and_eq_true, beq_iff_eq, decide_eq_true_eq, and_true]
theorem Rec.of (r : List D) (h : wfRow Rec.ty r) : ∃ e : Rec, r = e.enc ∧ e.ok := by
  simp only [Rec.ty, wfRow, wfT] at h
  obtain ⟨_, _, rfl, ⟨x0, rfl, h0, g0⟩, ⟨_, _, rfl, ⟨x1, rfl, h1, g1⟩, ⟨_, _, rfl, ⟨x2, rfl, h2⟩, rfl⟩⟩⟩ := h
  refine ⟨⟨x0, x1, x2⟩, rfl, ?_⟩
  exact ⟨⟨Int.le_trans (by decide) h0, Int.lt_of_le_of_lt g0 (by decide)⟩, ⟨Int.le_trans (by decide) h1, Int.lt_of_le_of_lt g1 (by decide)⟩, h2⟩
def offN (n : Int) : Bool := decide (0 ≤ n) && decide (n ≤ 1099511627776)
def whyF (r : Rec) : Int := if offN r.at_ = true ∧ offN r.ti = true then (if r.da.length ≤ 64 then 0 else 5) else 6
theorem offN_t {n : Int} (h : offN n = true) : 0 ≤ n ∧ n ≤ 1099511627776 := by simpa [offN] using h
theorem far_spec (n : Int) (hn : -9223372036854775808 ≤ n ∧ n < 9223372036854775808) : call 122 [vi n] [] = some (vb (!offN n), []) := by
  apply enterS s122 rfl
  by_cases c : 0 ≤ n
  · by_cases c2 : n ≤ 1099511627776
    · have e : IntKind.u64.wrap n = n := wrap_u64 (by omega)
      have eo : offN n = true := by simp [offN, c, c2]
      (simp (disch:=first|decide|omega|(intros;exact Eq.trans rfl rfl)|(simp only[puri];done)) only [a122, e, eo, go_sem, seval, dis])
    · have e : IntKind.u64.wrap n = n := wrap_u64 (by omega)
      have eo : offN n = false := by simp [offN, c, c2]
      (simp (disch:=first|decide|omega|(intros;exact Eq.trans rfl rfl)|(simp only[puri];done)) only [a122, e, eo, go_sem, seval, dis])
  · have e : IntKind.u64.wrap n = n + 18446744073709551616 := by
      show n % 18446744073709551616 = _
      omega
    have eo : offN n = false := by simp [offN, c]
    (simp (disch:=first|decide|omega|(intros;exact Eq.trans rfl rfl)|(simp only[puri];done)) only [a122, e, eo, go_sem, seval, dis])
theorem check_spec (r : Rec) (hr : r.ok) : call 93 [.agg (r.enc.map .d)] [] = some (vi (whyF r), []) := by
  apply enterS s93 rfl
  obtain ⟨h1, h2, h3⟩ := hr
  have f1 := far_spec r.at_ h1
  have f2 := far_spec r.ti h2
  unfold whyF
  cases c1 : offN r.at_ with
  | false =>
    rw [c1] at f1
    (simp (disch:=first|decide|omega|(intros;exact Eq.trans rfl rfl)|(simp only[puri];done)) only [a93, Rec.len, Rec.tk, Rec.fd0, Rec.fd1, Rec.fd2, Rec.at0, Rec.at1, Rec.at2, f1, f2, go_sem, seval, dis])
    try simp
  | true =>
    cases c2 : offN r.ti with
    | false =>
      rw [c1] at f1; rw [c2] at f2
      (simp (disch:=first|decide|omega|(intros;exact Eq.trans rfl rfl)|(simp only[puri];done)) only [a93, Rec.len, Rec.tk, Rec.fd0, Rec.fd1, Rec.fd2, Rec.at0, Rec.at1, Rec.at2, f1, f2, go_sem, seval, dis])
      try simp
    | true =>
      rw [c1] at f1; rw [c2] at f2
      by_cases c3 : r.da.length ≤ 64
      · (simp (disch:=first|decide|omega|(intros;exact Eq.trans rfl rfl)|(simp only[puri];done)) only [a93, Rec.len, Rec.tk, Rec.fd0, Rec.fd1, Rec.fd2, Rec.at0, Rec.at1, Rec.at2, f1, f2, go_sem, seval, dis])
        try simp [c3]
      · (simp (disch:=first|decide|omega|(intros;exact Eq.trans rfl rfl)|(simp only[puri];done)) only [a93, Rec.len, Rec.tk, Rec.fd0, Rec.fd1, Rec.fd2, Rec.at0, Rec.at1, Rec.at2, f1, f2, go_sem, seval, dis])
        try simp [c3]
end Go.Proofs.YtijnkmjbfekajaaGreat

namespace Go.Proofs.YtijnkmjbfekajaaGreat
open Go.Vi
theorem right_spec (r : Rec) (hr : r.ok) : call 85 [.agg (r.enc.map .d)] [] = some (vb (decide (whyF r = 0)), []) := by
  apply enterS s85 rfl
  have h := check_spec r hr
  (simp (disch:=first|decide|omega|(intros;exact Eq.trans rfl rfl)|(simp only[puri];done)) only [a85, Rec.len, Rec.tkL, Rec.dat, Rec.lenL, h, go_sem, seval, dis])
  try rfl
def bodyF (r : Rec) : List UInt8 := enc128 r.at_.toNat ++ enc128 r.ti.toNat ++ r.da
structure Fit (r : Rec) : Prop where
  a0 : 0 ≤ r.at_
  a1 : r.at_ ≤ 1099511627776
  t0 : 0 ≤ r.ti
  t1 : r.ti ≤ 1099511627776
  d : r.da.length ≤ 64
theorem why_fit {r : Rec} : whyF r = 0 ↔ Fit r := by
  unfold whyF
  constructor
  · intro h
    split at h
    · rename_i c
      have c1 := offN_t c.1
      have c2 := offN_t c.2
      split at h
      · exact ⟨c1.1, c1.2, c2.1, c2.2, by assumption⟩
      · cases h
    · cases h
  · intro h
    have c1 : offN r.at_ = true := by simp [offN, h.a0, h.a1]
    have c2 : offN r.ti = true := by simp [offN, h.t0, h.t1]
    rw [if_pos ⟨c1, c2⟩, if_pos h.d]
theorem nd_le6 {n : Nat} (h : n ≤ 1099511627776) : nd n ≤ 6 := by
  have hp := nd_pos n
  rcases Nat.lt_or_ge 6 (nd n) with h6 | h6
  · have := (nd_range (nd n - 1) n).1 (by omega)
    rcases this.2 with h0 | h0
    · omega
    · have : (128 : Nat) ^ 6 ≤ 128 ^ (nd n - 1) := Nat.pow_le_pow_right (by decide) (by omega)
      have e : (128 : Nat) ^ 6 = 4398046511104 := by decide
      omega
  · exact h6
theorem body_len (r : Rec) : (bodyF r).length = nd r.at_.toNat + nd r.ti.toNat + r.da.length := by simp [bodyF, nd, Nat.add_assoc]
theorem Fit.blen {r : Rec} (h : Fit r) : 2 ≤ (bodyF r).length ∧ (bodyF r).length ≤ 76 := by
  have h1 := nd_le6 (n := r.at_.toNat) (by have := h.a0; have := h.a1; omega)
  have h2 := nd_le6 (n := r.ti.toNat) (by have := h.t0; have := h.t1; omega)
  have h3 := nd_pos r.at_.toNat
  have h4 := nd_pos r.ti.toNat
  have := h.d
  rw [body_len]; omega
def putR (r : Rec) : V := if whyF r = 0 then .tup [(false, [.d (.s (frameF (bodyF r)))]), (false, [.d (.i .i64 0)])] else .tup [(false, [.d (.s [])]), (false, [.d (.i .i64 (whyF r))])]
theorem putN {n : Int} (h : 0 ≤ n) (h1 : n < 9223372036854775808) : call 95 [vi n] [] = some (vs (enc128 n.toNat), []) := by
  have := put_spec n.toNat (by omega)
  rwa [show ((n.toNat : Nat) : Int) = n by omega] at this
theorem refPutN {n : Int} (h : 0 ≤ n) (h1 : n < 9223372036854775808) : call 88 [vi n] [] = some (vs (enc128 n.toNat), []) := by
  have := refPut_spec n.toNat (by omega)
  rwa [show ((n.toNat : Nat) : Int) = n by omega] at this
theorem lenN {n : Int} (h : 0 ≤ n) (h1 : n < 9223372036854775808) : call 87 [vi n] [] = some (vi (nd n.toNat), []) := by
  have := len_spec n.toNat (by omega)
  rwa [show ((n.toNat : Nat) : Int) = n by omega] at this
theorem putRec_spec (r : Rec) (hr : r.ok) : call 55 [.agg (r.enc.map .d)] [] = some (putR r, []) := by
  apply enterS s55 rfl
  have h := check_spec r hr
  unfold putR
  by_cases c : whyF r = 0
  · have hf := why_fit.1 c
    have hb := hf.blen
    have p := putFrame_spec (bodyF r) (by omega)
    unfold putV at p
    rw [if_pos (by omega)] at p
    rw [c] at h
    have p1 := putN hf.a0 hr.1.2
    have p2 := putN hf.t0 hr.2.1.2
    have l1 : (enc128 r.at_.toNat).length ≤ 9 := nd_le9 (n := r.at_.toNat) (by have := hr.1.2; omega)
    have l2 : (enc128 r.ti.toNat).length ≤ 9 := nd_le9 (n := r.ti.toNat) (by have := hr.2.1.2; omega)
    have l3 := hf.d
    unfold bodyF at p
    rw [if_pos c]
    (simp (disch:=first|decide|omega|(intros;exact Eq.trans rfl rfl)|(simp only[puri];done)) only [a55, Rec.len, Rec.tkL, Rec.dat, Rec.lenL, Rec.fd0, Rec.fd1, Rec.fd2, Rec.at0, Rec.at1, Rec.at2, h, p1, p2, p, bodyF, go_sem, seval, dis])
  · rw [if_neg c]
    (simp (disch:=first|decide|omega|(intros;exact Eq.trans rfl rfl)|(simp only[puri];done)) only [a55, Rec.len, Rec.tkL, Rec.dat, Rec.lenL, Rec.fd0, Rec.fd1, Rec.fd2, Rec.at0, Rec.at1, Rec.at2, h, go_sem, seval, dis])
def sizeR (r : Rec) : Nat := if whyF r = 0 then (frameF (bodyF r)).length else 0
theorem sizeRec_spec (r : Rec) (hr : r.ok) : call 46 [.agg (r.enc.map .d)] [] = some (vi (sizeR r), []) := by
  apply enterS s46 rfl
  have h := right_spec r hr
  unfold sizeR
  by_cases c : whyF r = 0
  · have hf := why_fit.1 c
    have hb := hf.blen
    rw [decide_eq_true c] at h
    have p1 := lenN hf.a0 hr.1.2
    have p2 := lenN hf.t0 hr.2.1.2
    have l1 := nd_le9 (n := r.at_.toNat) (by have := hr.1.2; omega)
    have l2 := nd_le9 (n := r.ti.toNat) (by have := hr.2.1.2; omega)
    have l3 := hf.d
    have hs := size_spec ((nd r.at_.toNat : Int) + (nd r.ti.toNat : Int) + (r.da.length : Int))
    have he : sizeF ((nd r.at_.toNat : Int) + (nd r.ti.toNat : Int) + (r.da.length : Int)) = (((frameF (bodyF r)).length : Nat) : Int) := by
      rw [frameF_len]
      have hl := body_len r
      unfold sizeF
      rw [if_pos (by omega), show ((nd r.at_.toNat : Int) + (nd r.ti.toNat : Int) + (r.da.length : Int)).toNat = (bodyF r).length by omega]
      omega
    rw [he] at hs
    rw [if_pos c]
    (simp (disch:=first|decide|omega|(intros;exact Eq.trans rfl rfl)|(simp only[puri];done)) only [a46, Rec.len, Rec.tkL, Rec.dat, Rec.lenL, Rec.fd0, Rec.fd1, Rec.fd2, Rec.at0, Rec.at1, Rec.at2, h, p1, p2, hs, go_sem, seval, dis])
  · rw [if_neg c]
    rw [decide_eq_false c] at h
    (simp (disch:=first|decide|omega|(intros;exact Eq.trans rfl rfl)|(simp only[puri];done)) only [a46, Rec.len, Rec.tkL, Rec.dat, Rec.lenL, Rec.fd0, Rec.fd1, Rec.fd2, Rec.at0, Rec.at1, Rec.at2, h, go_sem, seval, dis])
    try rfl
end Go.Proofs.YtijnkmjbfekajaaGreat

namespace Go.Proofs.YtijnkmjbfekajaaGreat
open Go.Vi
theorem get1_spec (s : List UInt8) (a : Nat) (g : Bool) (ha : a < 9223372036854775808) (hs : s.length ≤ 9223372036854775807) :
    call 130 [.one (.p 0 0), .one (.p 1 0), .one (.p 2 0)] [.cells [.d (.s s)], .cells [.d (.i .i64 a)], .cells [.d (.b g)]] =
      some (match rdF (s.drop a) 0 0 with | some (n, k) => (vi n, [.cells [.d (.s s)], .cells [.d (.i .i64 ((a + k : Nat) : Int))], .cells [.d (.b g)]]) | none => (vi 0, [.cells [.d (.s s)], .cells [.d (.i .i64 0)], .cells [.d (.b false)]])) := by
  apply enterS s130 rfl
  have hr := read_spec s a ha hs
  cases h : rdF (s.drop a) 0 0 with
  | none =>
    rw [h] at hr
    cases g
    · (simp (disch:=first|decide|omega|(intros;exact Eq.trans rfl rfl)|(simp only[puri];done)) only [a130, hr, rdV, go_sem, seval, dis])
      try rfl
    · (simp (disch:=first|decide|omega|(intros;exact Eq.trans rfl rfl)|(simp only[puri];done)) only [a130, hr, rdV, go_sem, seval, dis])
      try rfl
  | some q =>
    obtain ⟨n, k⟩ := q
    rw [h] at hr
    cases g
    · (simp (disch:=first|decide|omega|(intros;exact Eq.trans rfl rfl)|(simp only[puri];done)) only [a130, hr, rdV, go_sem, seval, dis])
      try rfl
    · (simp (disch:=first|decide|omega|(intros;exact Eq.trans rfl rfl)|(simp only[puri];done)) only [a130, hr, rdV, go_sem, seval, dis])
      try rfl
def getR (s : List UInt8) : Rec × Int := match rdF s 0 0 with
  | none => (⟨0, 0, []⟩, 3)
  | some (n, k) => match rdF (s.drop k) 0 0 with
    | none => (⟨0, 0, []⟩, 3)
    | some (m, j) => if whyF ⟨n, m, s.drop (k + j)⟩ = 0 then (⟨n, m, s.drop (k + j)⟩, 0) else (⟨0, 0, []⟩, whyF ⟨n, m, s.drop (k + j)⟩)
def recV (r : Rec × Int) : V := .tup [(true, r.1.enc.map .d), (false, [.d (.i .i64 r.2)])]
theorem callIso_at {φ : Phi} {f : FuncId} {args args' : List V} {H H' H1 H2 : Hp} {ids : List Nat} {r r' : V} (hi : idsOf H (args.flatMap V.refs) = ids) (ha : args.map (V.ren (place ids)) = args') (hH : canonH H ids = H')
    (hr : φ f args' H' = some (r, H1)) (he : (r.ren (fun j => if j < ids.length then ids[j]? else some (H.length + (j - ids.length))), setAll H ids ((H1.take ids.length).map (Box.ren (fun j => if j < ids.length then ids[j]? else some (H.length + (j - ids.length))))) ++ (H1.drop ids.length).map (Box.ren (fun j => if j < ids.length then ids[j]? else some (H.length + (j - ids.length))))) = (r', H2)) :
    callIso φ f args H = some (r', H2) := by
  subst hi; subst ha; subst hH
  simp only [callIso, hr]
  rw [he]
theorem rd_lt {l : List UInt8} {n k : Nat} (h : rdF l 0 0 = some (n, k)) : n < 9223372036854775808 := by
  obtain ⟨h1, h2, h3, h4⟩ := rdF_enc0 h
  have e : nd n = k := by unfold nd; rw [← h4, List.length_take]; omega
  obtain ⟨m, hm⟩ : ∃ m, nd n = m + 1 := ⟨nd n - 1, by have := nd_pos n; omega⟩
  have := ((nd_range m n).1 hm).1
  have h9 : (128 : Nat) ^ (m + 1) ≤ 128 ^ 9 := Nat.pow_le_pow_right (by decide) (by omega)
  have e9 : (128 : Nat) ^ 9 = 9223372036854775808 := by decide
  omega
set_option maxRecDepth 8000 in
theorem get_spec (s : List UInt8) (hs : s.length ≤ 1000000) : call 117 [vs s] [] = some (recV (getR s), []) := by
  apply enterS s117 rfl
  have g1 := get1_spec s 0 true (by decide) (by omega)
  unfold getR recV
  cases h : rdF s 0 0 with
  | none =>
    rw [List.drop_zero, h] at g1
    have c1 : callIso call 130 [.one (.p 0 0), .one (.p 2 0), .one (.p 3 0)] [.cells [.d (.s s)], .cells [.d (.i .i64 0), .d (.i .i64 0), .d (.s [])], .cells [.d (.i .i64 0)], .cells [.d (.b true)]] = some (vi 0, [.cells [.d (.s s)], .cells [.d (.i .i64 0), .d (.i .i64 0), .d (.s [])], .cells [.d (.i .i64 0)], .cells [.d (.b false)]]) :=
      callIso_at rfl rfl rfl g1 rfl
    (simp (disch:=first|decide|omega|(intros;exact Eq.trans rfl rfl)|(simp only[puri];done)) only [a117, c1, List.mapM_cons, List.mapM_nil, Option.pure_def, Option.bind_eq_bind, Option.bind_some, List.map_cons, List.map_nil, List.cons_append, List.nil_append, go_sem, seval, dis])
    try rfl
  | some q =>
    obtain ⟨n, k⟩ := q
    rw [List.drop_zero, h] at g1
    obtain ⟨b1, b2, b3, b4⟩ := rdF_enc0 h
    have hn := rd_lt h
    simp only [Nat.zero_add] at g1
    have c1 : callIso call 130 [.one (.p 0 0), .one (.p 2 0), .one (.p 3 0)] [.cells [.d (.s s)], .cells [.d (.i .i64 0), .d (.i .i64 0), .d (.s [])], .cells [.d (.i .i64 0)], .cells [.d (.b true)]] = some (vi n, [.cells [.d (.s s)], .cells [.d (.i .i64 0), .d (.i .i64 0), .d (.s [])], .cells [.d (.i .i64 k)], .cells [.d (.b true)]]) :=
      callIso_at rfl rfl rfl g1 rfl
    have g2 := get1_spec s k true (by omega) (by omega)
    dsimp only
    cases h2 : rdF (s.drop k) 0 0 with
    | none =>
      rw [h2] at g2
      have c2 : callIso call 130 [.one (.p 0 0), .one (.p 2 0), .one (.p 3 0)] [.cells [.d (.s s)], .cells [.d (.i .i64 0), .d (.i .i64 0), .d (.s [])], .cells [.d (.i .i64 k)], .cells [.d (.b true)], .cells [.d (.i .i64 n), .d (.i .i64 0), .d (.s [])]] = some (vi 0, [.cells [.d (.s s)], .cells [.d (.i .i64 0), .d (.i .i64 0), .d (.s [])], .cells [.d (.i .i64 0)], .cells [.d (.b false)], .cells [.d (.i .i64 n), .d (.i .i64 0), .d (.s [])]]) :=
        callIso_at rfl rfl rfl g2 rfl
      (simp (disch:=first|decide|omega|(intros;exact Eq.trans rfl rfl)|(simp only[puri];done)) only [a117, c1, c2, List.mapM_cons, List.mapM_nil, Option.pure_def, Option.bind_eq_bind, Option.bind_some, List.map_cons, List.map_nil, List.cons_append, List.nil_append, go_sem, seval, dis])
      try rfl
    | some q2 =>
      obtain ⟨m, j⟩ := q2
      rw [h2] at g2
      obtain ⟨d1, d2, d3, d4⟩ := rdF_enc0 h2
      have hm := rd_lt h2
      have d2' : k + j ≤ s.length := by rw [List.length_drop] at d2; omega
      have c2 : callIso call 130 [.one (.p 0 0), .one (.p 2 0), .one (.p 3 0)] [.cells [.d (.s s)], .cells [.d (.i .i64 0), .d (.i .i64 0), .d (.s [])], .cells [.d (.i .i64 k)], .cells [.d (.b true)], .cells [.d (.i .i64 n), .d (.i .i64 0), .d (.s [])]] = some (vi m, [.cells [.d (.s s)], .cells [.d (.i .i64 0), .d (.i .i64 0), .d (.s [])], .cells [.d (.i .i64 ((k + j : Nat) : Int))], .cells [.d (.b true)], .cells [.d (.i .i64 n), .d (.i .i64 0), .d (.s [])]]) :=
        callIso_at rfl rfl rfl g2 rfl
      have ck : call 93 [.agg [.d (.i .i64 n), .d (.i .i64 m), .d (.s (s.drop (k + j)))]] [] = some (vi (whyF ⟨n, m, s.drop (k + j)⟩), []) := check_spec ⟨n, m, s.drop (k + j)⟩ ⟨⟨by simp only []; omega, by simp only []; omega⟩, ⟨by simp only []; omega, by simp only []; omega⟩, by simp; omega⟩
      dsimp only
      by_cases c : whyF ⟨n, m, s.drop (k + j)⟩ = 0
      · rw [c] at ck
        rw [if_pos c]
        (simp (disch:=first|decide|omega|(intros;exact Eq.trans rfl rfl)|(simp only[puri];done)) only [a117, c1, c2, ck, List.mapM_cons, List.mapM_nil, Option.pure_def, Option.bind_eq_bind, Option.bind_some, List.map_cons, List.map_nil, List.cons_append, List.nil_append, go_sem, seval, dis])
        try rfl
      · rw [if_neg c]
        (simp (disch:=first|decide|omega|(intros;exact Eq.trans rfl rfl)|(simp only[puri];done)) only [a117, c1, c2, ck, c, List.mapM_cons, List.mapM_nil, Option.pure_def, Option.bind_eq_bind, Option.bind_some, List.map_cons, List.map_nil, List.cons_append, List.nil_append, go_sem, seval, dis])
        try rfl
end Go.Proofs.YtijnkmjbfekajaaGreat

namespace Go.Proofs.YtijnkmjbfekajaaGreat
open Go.Vi
end Go.Proofs.YtijnkmjbfekajaaGreat

namespace Go.Proofs.YtijnkmjbfekajaaGreat
open Go.Vi
end Go.Proofs.YtijnkmjbfekajaaGreat

namespace Go.Proofs.YtijnkmjbfekajaaGreat
open Go.Vi
theorem sizeR_le {r : Rec} : sizeR r ≤ 82 := by
  unfold sizeR
  split
  · rename_i c
    have hf := (why_fit.1 c).blen
    rw [frameF_len, nd_small (by omega)]; omega
  · omega
end Go.Proofs.YtijnkmjbfekajaaGreat

namespace Go.Proofs.YtijnkmjbfekajaaGreat
open Go.Vi
def frameR (r : Rec) : List UInt8 := frameF (bodyF r)
def rowS (l : List Rec) : List UInt8 := l.flatMap frameR
end Go.Proofs.YtijnkmjbfekajaaGreat

namespace Go.Proofs.YtijnkmjbfekajaaGreat
open Go.Vi
theorem nextF_tlen (s : List UInt8) (a : Nat) : (nextF s a).1.length ≤ s.length := by
  unfold nextF
  repeat' split
  all_goals (try simp)
  all_goals omega
end Go.Proofs.YtijnkmjbfekajaaGreat

namespace Go.Proofs.YtijnkmjbfekajaaGreat
open Go.Vi
theorem getR_body {r : Rec} (h : Fit r) : getR (bodyF r) = (r, 0) := by
  have h0 := h.a0; have h1 := h.a1; have h2 := h.t0; have h3 := h.t1
  have ea : ((r.at_.toNat : Nat) : Int) = r.at_ := by omega
  have et : ((r.ti.toNat : Nat) : Int) = r.ti := by omega
  have r1 : rdF (bodyF r) 0 0 = some (r.at_.toNat, nd r.at_.toNat) := by
    unfold bodyF; rw [List.append_assoc]; exact rdF_of0 _ _ (by omega)
  have d1 : (bodyF r).drop (nd r.at_.toNat) = enc128 r.ti.toNat ++ r.da := by
    unfold bodyF nd; rw [List.append_assoc, List.drop_left]
  have r2 : rdF (enc128 r.ti.toNat ++ r.da) 0 0 = some (r.ti.toNat, nd r.ti.toNat) := rdF_of0 _ _ (by omega)
  have d2 : (bodyF r).drop (nd r.at_.toNat + nd r.ti.toNat) = r.da := by
    rw [← List.drop_drop, d1]; unfold nd; rw [List.drop_left]
  have er : (⟨((r.at_.toNat : Nat) : Int), ((r.ti.toNat : Nat) : Int), r.da⟩ : Rec) = r := by rw [ea, et]
  unfold getR
  rw [r1]
  simp only []
  rw [d1, r2]
  simp only []
  rw [d2, er, if_pos (why_fit.2 h)]
end Go.Proofs.YtijnkmjbfekajaaGreat

namespace Go.Proofs.YtijnkmjbfekajaaGreat
open Go.Vi
end Go.Proofs.YtijnkmjbfekajaaGreat

namespace Go.Proofs.YtijnkmjbfekajaaGreat
open Go.Vi
def placesF : Nat → List UInt8 → Nat → Int → List (Rec × Nat) × Nat × Int
  | 0, _, a, _ => ([], a, 0)
  | f + 1, s, a, b => if s.length ≤ a then ([], a, 0) else
    match nextF s a with
    | (t, n, e) => if e = 0 then (if (getR t).2 = 0 then (if (getR t).1.at_ = b then (((getR t).1, a) :: (placesF f s n (b + 1)).1, (placesF f s n (b + 1)).2) else ([], a, 3)) else ([], a, (getR t).2)) else ([], a, e)
theorem placesF_step {s t : List UInt8} {a n f : Nat} {b : Int} (ha : a < s.length) (h : nextF s a = (t, n, 0)) (hg : (getR t).2 = 0) (hb : (getR t).1.at_ = b) : placesF (f + 1) s a b = (((getR t).1, a) :: (placesF f s n (b + 1)).1, (placesF f s n (b + 1)).2) := by
  simp only [placesF]; rw [if_neg (by omega), h]; simp only []; rw [if_pos trivial, if_pos hg, if_pos hb]
theorem placesF_off {s t : List UInt8} {a n f : Nat} {b : Int} (ha : a < s.length) (h : nextF s a = (t, n, 0)) (hg : (getR t).2 = 0) (hb : (getR t).1.at_ ≠ b) : placesF (f + 1) s a b = ([], a, 3) := by
  simp only [placesF]; rw [if_neg (by omega), h]; simp only []; rw [if_pos trivial, if_pos hg, if_neg hb]
theorem placesF_bad {s t : List UInt8} {a n f : Nat} {b : Int} (ha : a < s.length) (h : nextF s a = (t, n, 0)) (hg : (getR t).2 ≠ 0) : placesF (f + 1) s a b = ([], a, (getR t).2) := by
  simp only [placesF]; rw [if_neg (by omega), h]; simp only []; rw [if_pos trivial, if_neg hg]
theorem placesF_stop {s t : List UInt8} {a n f : Nat} {e b : Int} (ha : a < s.length) (h : nextF s a = (t, n, e)) (he : e ≠ 0) : placesF (f + 1) s a b = ([], a, e) := by
  simp only [placesF]; rw [if_neg (by omega), h]; simp only []; rw [if_neg he]
theorem placesF_end {s : List UInt8} {a f : Nat} {b : Int} (ha : s.length ≤ a) : placesF f s a b = ([], a, 0) := by
  cases f with
  | zero => rfl
  | succ f => simp only [placesF]; rw [if_pos ha]
theorem placesF_fuel {s : List UInt8} : ∀ (g g' b : Nat) (o : Int), b ≤ s.length → s.length < b + g → s.length < b + g' → placesF g s b o = placesF g' s b o := by
  intro g
  induction g with
  | zero => intro g' b o hb h1 h2; omega
  | succ g ih =>
    intro g' b o hb h1 h2
    obtain ⟨g2, rfl⟩ : ∃ g2, g' = g2 + 1 := ⟨g' - 1, by omega⟩
    rcases Nat.lt_or_ge b s.length with hbl | hbl
    · obtain ⟨⟨t', n', e'⟩, hx'⟩ : ∃ x, nextF s b = x := ⟨_, rfl⟩
      by_cases he' : e' = 0
      · subst he'
        have hok' := nextF_ok hx'
        by_cases hg : (getR t').2 = 0
        · by_cases ho : (getR t').1.at_ = o
          · rw [placesF_step hbl hx' hg ho, placesF_step hbl hx' hg ho, ih g2 n' _ hok'.2 (by omega) (by omega)]
          · rw [placesF_off hbl hx' hg ho, placesF_off hbl hx' hg ho]
        · rw [placesF_bad hbl hx' hg, placesF_bad hbl hx' hg]
      · rw [placesF_stop hbl hx' he', placesF_stop hbl hx' he']
    · rw [placesF_end hbl, placesF_end hbl]
set_option maxRecDepth 8000 in
theorem good_spec (n : Int) (hn : -9223372036854775808 ≤ n ∧ n < 9223372036854775808) : call 81 [vi n] [] = some (vb (offN n), []) := by
  apply enterS s81 rfl
  unfold offN
  by_cases c : 0 ≤ n
  · have e : IntKind.u64.wrap n = n := wrap_u64 ⟨c, by omega⟩
    by_cases c2 : n ≤ 1099511627776
    · (simp (disch:=first|decide|omega|(intros;exact Eq.trans rfl rfl)|(simp only[puri];done)) only [a81, e, c, c2, go_sem, seval, dis])
    · (simp (disch:=first|decide|omega|(intros;exact Eq.trans rfl rfl)|(simp only[puri];done)) only [a81, e, c, c2, go_sem, seval, dis])
  · have e : IntKind.u64.wrap n = n + 18446744073709551616 := by
      simp [IntKind.wrap, IntKind.bits, IntKind.signed]; omega
    (simp (disch:=first|decide|omega|(intros;exact Eq.trans rfl rfl)|(simp only[puri];done)) only [a81, e, c, Bool.false_and, go_sem, seval, dis])
theorem records_spec (xs : List L) : call 80 [.one (.p 0 0)] [.cells xs] = some (.one (.f 115 [1]), [.cells xs, .cells [.p 0 0]]) := by
  apply enterS s80 rfl
  (simp (disch:=first|decide|omega|(intros;exact Eq.trans rfl rfl)|(simp only[puri];done)) only [a80, List.mapM_cons, List.mapM_nil, Option.pure_def, Option.bind_eq_bind, Option.bind_some, go_sem, seval, dis])
  simp [trim, V.refs, L.refs]
end Go.Proofs.YtijnkmjbfekajaaGreat

namespace Go.Proofs.YtijnkmjbfekajaaGreat
open Go.Vi
def scanV (r : List (Rec × Nat) × Nat × Int) : V := .tup [(false, [.d (.l (r.1.map fun x => x.1.enc))]), (false, [.d (.i .i64 ((r.2.1 : Nat) : Int))]), (false, [.d (.i .i64 r.2.2)])]
def scanS (s : List UInt8) (b : Int) : List (Rec × Nat) × Nat × Int := if offN b = true then placesF (s.length + 1) s 0 b else ([], 0, 1)
def outL (l : List (Rec × Nat)) : L := match l with | [] => .ns | _ => .sl 4 3 0 l.length
def outB (l : List (Rec × Nat)) : Hp := match l with | [] => [] | _ => [.arr 3 (l.map fun x => x.1.enc) 0]
set_option maxRecDepth 8000 in
theorem scan_spec (s : List UInt8) (hs : s.length ≤ 1000000) (b : Int) (hb : -9223372036854775808 ≤ b ∧ b < 9223372036854775808) : call 45 [vs s, vi b] [] = some (scanV (scanS s b), []) := by
  apply enterM s45 rfl
  have hg := good_spec b hb
  unfold scanS scanV
  cases h : offN b with
  | false =>
    rw [h] at hg
    (simp (disch:=first|decide|omega|(intros;exact Eq.trans rfl rfl)|(simp only[puri];done)) only [a45, hg, go_sem, seval, dis, vdr, A.kind, A.xs, optX, visM])
    try simp
  | true =>
    rw [h] at hg
    have c1 : callIso call 80 [.one (.p 0 0)] [.cells [.d (.s s), .d (.i .i64 0), .d (.i .i64 b), .d (.i .i64 0)], .cells [.ns]] = some (.one (.f 115 [2]), [.cells [.d (.s s), .d (.i .i64 0), .d (.i .i64 b), .d (.i .i64 0)], .cells [.ns], .cells [.p 0 0]]) :=
      iso_at rfl rfl rfl (records_spec _) rfl
    (simp (disch:=first|decide|omega|(intros;exact Eq.trans rfl rfl)|(simp only[puri];done)) only [a45, hg, c1, go_sem, seval, dis, vdr, A.kind, A.xs, optX, visM])
    rw [M_rngS (gf := 115) (caps := [2]) (af := a115) (by rfl) s115 rfl]
    generalize hψ : roundRunU call _ _ _ _ = ψ
    (simp (disch:=first|decide|omega|(intros;exact Eq.trans rfl rfl)|(simp only[puri];done)) only [a115, go_sem, seval, dis, vdr, A.kind, A.xs, optX, visY, ↓ops_consY, ↓ops_conszY])
    have hr := fun (v : V) (H : Hp) => (congrFun (congrFun hψ.symm [v]) H).trans (round_e _ _ _ _ _ [v] H rfl)
    clear hψ
    have hb2 : 0 ≤ b ∧ b ≤ 1099511627776 := by simpa [offN] using h
    refine loop_boxY (N := 82) (m := 4) (σ := Nat × Int × List (Rec × Nat)) (fun t => s.length - t.1) (fun t => t.1 ≤ s.length ∧ t.2.2.length ≤ t.1 ∧ t.2.1 = b + t.2.2.length) (fun t => [V.one (.y 3 0), V.one (.p 2 0)])
      (fun t => [.cells [.d (.s s), .d (.i .i64 t.1), .d (.i .i64 t.2.1), .d (.i .i64 0)], .cells [outL t.2.2], .cells [.p 0 0], .dead] ++ outB t.2.2)
      (fun t => (scanV (t.2.2 ++ (placesF (s.length + 1 - t.1) s t.1 t.2.1).1, (placesF (s.length + 1 - t.1) s t.1 t.2.1).2), ([] : Hp))) ?_ (0, b, []) ⟨Nat.zero_le _, by simp, by simp⟩ _ _ (at_headM (by decide) (by simp only [List.map_cons, List.map_nil, go_sem, seval]; exact rfl) (by rfl) (by rfl) (by rfl))
    rintro ⟨a, nx, out⟩ ⟨ha, hout, hnx⟩ R hR
    simp only at ha hout hnx
    rcases Nat.lt_or_ge a s.length with h | h
    · obtain ⟨f, hf⟩ : ∃ f, s.length + 1 - a = f + 1 := ⟨s.length - a, by omega⟩
      have hn := next_spec s a (by omega) (by omega)
      have htl := nextF_tlen s a
      obtain ⟨⟨t, n, e⟩, hx⟩ : ∃ x, nextF s a = x := ⟨_, rfl⟩
      rw [hx] at hn htl
      by_cases he : e = 0
      · subst he
        have hok := nextF_ok hx
        have hg := get_spec t (by simp only [] at htl; omega)
        have hst := @placesF_step s t a n f nx h hx
        have hof := @placesF_off s t a n f nx h hx
        have hbd := @placesF_bad s t a n f nx h hx
        obtain ⟨⟨r, g⟩, hq⟩ : ∃ x, getR t = x := ⟨_, rfl⟩
        rw [hq] at hg hst hof hbd
        simp only [recV] at hg hst hbd hof
        by_cases hz : g = 0
        · subst hz
          by_cases ho : r.at_ = nx
          · simp only [hf, hst rfl ho]
            subst ho
            have e3 : placesF f s n (r.at_ + 1) = placesF (s.length + 1 - n) s n (r.at_ + 1) := placesF_fuel _ _ n _ hok.2 (by omega) (by omega)
            rcases out with _ | ⟨x, out⟩
            · simp only [List.length_nil] at hnx hout
              (simp (disch:=first|decide|omega|(intros;exact Eq.trans rfl rfl)|(simp only[puri];done)) only [a115_0, hn, nextV, hg, Rec.len, Rec.tk, Rec.tkL, Rec.dat, Rec.lenL, Rec.enc, List.map_cons, List.map_nil, List.getElem?_cons_zero, outL, outB, List.append_nil, go_sem, seval, dis, vdr, A.kind, A.xs, optX, visY, ↓ops_consY, ↓ops_conszY])
              rw [hr]
              (simp (disch:=first|decide|omega|(intros;exact Eq.trans rfl rfl)|(simp only[puri];done)) only [visY, go_sem, seval, dis, vdr, A.kind, A.xs, optX])
              (simp (disch:=first|decide|omega|(intros;exact Eq.trans rfl rfl)|(simp only[puri];done)) only [go_sem, seval, dis, vdr, A.kind, A.xs, optX, visY, ↓ops_consY, ↓ops_conszY])
              have hR' := hR (n, r.at_ + 1, [(r, a)]) (by simp only []; omega) ⟨hok.2, by simp; omega, by simp; omega⟩
              simp only [List.singleton_append, ← e3] at hR'
              exact hR' _ _ (at_headM (by decide) (by simp only [List.map_cons, List.map_nil, go_sem, seval]; exact rfl) (by rfl) (by rfl) (by rfl))
            · simp only [List.length_cons] at hnx hout
              (simp (disch:=first|decide|omega|(intros;exact Eq.trans rfl rfl)|(simp only[puri];done)) only [a115_0, hn, nextV, hg, Rec.len, Rec.tk, Rec.tkL, Rec.dat, Rec.lenL, Rec.enc, List.map_cons, List.map_nil, List.getElem?_cons_zero, outL, outB, List.append_nil, go_sem, seval, dis, vdr, A.kind, A.xs, optX, visY, ↓ops_consY, ↓ops_conszY])
              rw [hr]
              (simp (disch:=first|decide|omega|(intros;exact Eq.trans rfl rfl)|(simp only[puri];done)) only [visY, go_sem, seval, dis, vdr, A.kind, A.xs, optX])
              (simp (disch:=first|decide|omega|(intros;exact Eq.trans rfl rfl)|(simp only[puri];done)) only [go_sem, seval, dis, vdr, A.kind, A.xs, optX, visY, ↓ops_consY, ↓ops_conszY])
              have hR' := hR (n, r.at_ + 1, (x :: out) ++ [(r, a)]) (by simp only []; omega) ⟨hok.2, by simp; omega, by simp; omega⟩
              simp only [List.append_assoc, List.singleton_append, ← e3, outL, outB, List.cons_append, List.length_cons, List.length_append, List.length_nil, Nat.zero_add, List.map_cons, List.map_append, List.map_nil, Rec.enc] at hR'
              exact hR' _ _ (at_headM (by decide) (by simp only [List.map_cons, List.map_nil, go_sem, seval]; exact rfl) (by rfl) (by rfl) (by rfl))
          · simp only [hf, hof rfl ho]
            rcases out with _ | ⟨x, out⟩
            · (simp (disch:=first|decide|omega|(intros;exact Eq.trans rfl rfl)|(simp only[puri];done)) only [a115_0, hn, nextV, hg, Rec.len, Rec.tk, Rec.tkL, Rec.dat, Rec.lenL, Rec.enc, List.map_cons, List.map_nil, List.getElem?_cons_zero, outL, outB, List.append_nil, ho, go_sem, seval, dis, vdr, A.kind, A.xs, optX, visY, ↓ops_consY, ↓ops_conszY])
              rw [rngK_r (q := 3) (k := 0) (by decide) rfl]
              (simp (disch:=first|decide|omega|(intros;exact Eq.trans rfl rfl)|(simp only[puri];done)) only [visY, Rec.len, Rec.tk, Rec.tkL, Rec.dat, Rec.lenL, Rec.enc, List.map_cons, List.map_nil, go_sem, seval, dis, vdr, A.kind, A.xs, optX, visM])
              simp [scanV, Rec.enc]
            · simp only [List.length_cons] at hnx hout
              (simp (disch:=first|decide|omega|(intros;exact Eq.trans rfl rfl)|(simp only[puri];done)) only [a115_0, hn, nextV, hg, Rec.len, Rec.tk, Rec.tkL, Rec.dat, Rec.lenL, Rec.enc, List.map_cons, List.map_nil, List.getElem?_cons_zero, outL, outB, List.append_nil, ho, go_sem, seval, dis, vdr, A.kind, A.xs, optX, visY, ↓ops_consY, ↓ops_conszY])
              rw [rngK_r (q := 3) (k := 0) (by decide) rfl]
              (simp (disch:=first|decide|omega|(intros;exact Eq.trans rfl rfl)|(simp only[puri];done)) only [visY, Rec.len, Rec.tk, Rec.tkL, Rec.dat, Rec.lenL, Rec.enc, List.map_cons, List.map_nil, go_sem, seval, dis, vdr, A.kind, A.xs, optX, visM])
              simp [scanV, Rec.enc]
        · simp only [hf, hbd hz]
          rcases out with _ | ⟨x, out⟩
          · (simp (disch:=first|decide|omega|(intros;exact Eq.trans rfl rfl)|(simp only[puri];done)) only [a115_0, hn, nextV, hg, Rec.len, Rec.tk, Rec.tkL, Rec.dat, Rec.lenL, Rec.enc, List.map_cons, List.map_nil, List.getElem?_cons_zero, outL, outB, List.append_nil, hz, go_sem, seval, dis, vdr, A.kind, A.xs, optX, visY, ↓ops_consY, ↓ops_conszY])
            rw [rngK_r (q := 3) (k := 0) (by decide) rfl]
            (simp (disch:=first|decide|omega|(intros;exact Eq.trans rfl rfl)|(simp only[puri];done)) only [visY, Rec.len, Rec.tk, Rec.tkL, Rec.dat, Rec.lenL, Rec.enc, List.map_cons, List.map_nil, go_sem, seval, dis, vdr, A.kind, A.xs, optX, visM])
            simp [scanV, Rec.enc]
          · simp only [List.length_cons] at hnx hout
            (simp (disch:=first|decide|omega|(intros;exact Eq.trans rfl rfl)|(simp only[puri];done)) only [a115_0, hn, nextV, hg, Rec.len, Rec.tk, Rec.tkL, Rec.dat, Rec.lenL, Rec.enc, List.map_cons, List.map_nil, List.getElem?_cons_zero, outL, outB, List.append_nil, hz, go_sem, seval, dis, vdr, A.kind, A.xs, optX, visY, ↓ops_consY, ↓ops_conszY])
            rw [rngK_r (q := 3) (k := 0) (by decide) rfl]
            (simp (disch:=first|decide|omega|(intros;exact Eq.trans rfl rfl)|(simp only[puri];done)) only [visY, Rec.len, Rec.tk, Rec.tkL, Rec.dat, Rec.lenL, Rec.enc, List.map_cons, List.map_nil, go_sem, seval, dis, vdr, A.kind, A.xs, optX, visM])
            simp [scanV, Rec.enc]
      · simp only [hf, placesF_stop h hx he]
        rcases out with _ | ⟨x, out⟩
        · (simp (disch:=first|decide|omega|(intros;exact Eq.trans rfl rfl)|(simp only[puri];done)) only [a115_0, hn, nextV, hg, Rec.len, Rec.tk, Rec.tkL, Rec.dat, Rec.lenL, Rec.enc, List.map_cons, List.map_nil, List.getElem?_cons_zero, outL, outB, List.append_nil, he, go_sem, seval, dis, vdr, A.kind, A.xs, optX, visY, ↓ops_consY, ↓ops_conszY])
          rw [rngK_r (q := 3) (k := 0) (by decide) rfl]
          (simp (disch:=first|decide|omega|(intros;exact Eq.trans rfl rfl)|(simp only[puri];done)) only [visY, Rec.len, Rec.tk, Rec.tkL, Rec.dat, Rec.lenL, Rec.enc, List.map_cons, List.map_nil, go_sem, seval, dis, vdr, A.kind, A.xs, optX, visM])
          simp [scanV, Rec.enc]
        · simp only [List.length_cons] at hnx hout
          (simp (disch:=first|decide|omega|(intros;exact Eq.trans rfl rfl)|(simp only[puri];done)) only [a115_0, hn, nextV, hg, Rec.len, Rec.tk, Rec.tkL, Rec.dat, Rec.lenL, Rec.enc, List.map_cons, List.map_nil, List.getElem?_cons_zero, outL, outB, List.append_nil, he, go_sem, seval, dis, vdr, A.kind, A.xs, optX, visY, ↓ops_consY, ↓ops_conszY])
          rw [rngK_r (q := 3) (k := 0) (by decide) rfl]
          (simp (disch:=first|decide|omega|(intros;exact Eq.trans rfl rfl)|(simp only[puri];done)) only [visY, Rec.len, Rec.tk, Rec.tkL, Rec.dat, Rec.lenL, Rec.enc, List.map_cons, List.map_nil, go_sem, seval, dis, vdr, A.kind, A.xs, optX, visM])
          simp [scanV, Rec.enc]
    · rw [placesF_end h]
      have ea : a = s.length := by omega
      rcases out with _ | ⟨x, out⟩
      · (simp (disch:=first|decide|omega|(intros;exact Eq.trans rfl rfl)|(simp only[puri];done)) only [a115_0, Rec.len, Rec.tk, Rec.tkL, Rec.dat, Rec.lenL, Rec.enc, List.map_cons, List.map_nil, List.getElem?_cons_zero, outL, outB, List.append_nil, ea, go_sem, seval, dis, vdr, A.kind, A.xs, optX, visY, ↓ops_consY, ↓ops_conszY])
        rw [rngK_n (q := 3) (k := 0) (by decide) rfl]
        (simp (disch:=first|decide|omega|(intros;exact Eq.trans rfl rfl)|(simp only[puri];done)) only [visY, Rec.len, Rec.tk, Rec.tkL, Rec.dat, Rec.lenL, Rec.enc, List.map_cons, List.map_nil, go_sem, seval, dis, vdr, A.kind, A.xs, optX, visM])
        simp [scanV, Rec.enc]
      · simp only [List.length_cons] at hnx hout
        (simp (disch:=first|decide|omega|(intros;exact Eq.trans rfl rfl)|(simp only[puri];done)) only [a115_0, Rec.len, Rec.tk, Rec.tkL, Rec.dat, Rec.lenL, Rec.enc, List.map_cons, List.map_nil, List.getElem?_cons_zero, outL, outB, List.append_nil, ea, go_sem, seval, dis, vdr, A.kind, A.xs, optX, visY, ↓ops_consY, ↓ops_conszY])
        rw [rngK_n (q := 3) (k := 0) (by decide) rfl]
        (simp (disch:=first|decide|omega|(intros;exact Eq.trans rfl rfl)|(simp only[puri];done)) only [visY, Rec.len, Rec.tk, Rec.tkL, Rec.dat, Rec.lenL, Rec.enc, List.map_cons, List.map_nil, go_sem, seval, dis, vdr, A.kind, A.xs, optX, visM])
        simp [scanV, Rec.enc]
end Go.Proofs.YtijnkmjbfekajaaGreat

namespace Go.Proofs.YtijnkmjbfekajaaGreat
open Go.Vi
end Go.Proofs.YtijnkmjbfekajaaGreat

namespace Go.Proofs.YtijnkmjbfekajaaGreat
open Go.Vi
abbrev Mk := Int × Int
def mkE (m : Mk) : List D := [.i .i64 m.1, .i .i64 m.2]
theorem mkE_len (m : Mk) : (mkE m).length = 2 := Eq.trans rfl rfl
theorem mkE_tk (m : Mk) : (mkE m).take 2 = mkE m := Eq.trans rfl rfl
theorem mkE_0 (m : Mk) : (mkE m)[0]? = some (.i .i64 m.1) := Eq.trans rfl rfl
def addM (l : List Mk) (base every : Int) (m : Mk) : List Mk := if (m.1 - base).tmod every = 0 then l ++ [m] else l
set_option maxRecDepth 8000 in
theorem add_spec (l : List Mk) (hl : l.length ≤ 1000000) (base every : Int) (m : Mk) (hb : 0 ≤ base ∧ base ≤ 1099511627776) (he : 1 ≤ every ∧ every ≤ 256) (hm : 0 ≤ m.1 ∧ m.1 ≤ 4611686018427387904) :
    call 82 [vl (l.map mkE), vi base, vi every, .agg [.d (.i .i64 m.1), .d (.i .i64 m.2)]] [] = some (vl ((addM l base every m).map mkE), []) := by
  apply enterS s82 rfl
  have hw : IntKind.i64.wrap (m.1 - base) = m.1 - base := wrap_i (by omega)
  have hne : (every = 0) = False := by simp; omega
  unfold addM
  by_cases c : (m.1 - base).tmod every = 0
  · (simp (disch:=first|decide|omega|(intros;exact Eq.trans rfl rfl)|(simp only[puri];done)) only [a82, hw, hne, c, mkE_len, mkE_tk, go_sem, seval, dis])
    simp [mkE]
  · (simp (disch:=first|decide|omega|(intros;exact Eq.trans rfl rfl)|(simp only[puri];done)) only [a82, hw, hne, c, mkE_len, mkE_tk, go_sem, seval, dis])
    try simp
def readL (l : List Rec) (off : Int) : V := match l.find? (fun r => decide (r.at_ = off)) with | some r => .tup [(true, r.enc.map .d), (false, [.d (.i .i64 0)])] | none => .tup [(true, [.d (.i .i64 0), .d (.i .i64 0), .d (.s [])]), (false, [.d (.i .i64 6)])]
theorem placesF_len {s : List UInt8} : ∀ (f a : Nat) (b : Int), a ≤ s.length → (placesF f s a b).1.length + a ≤ s.length := by
  intro f
  induction f with
  | zero => intro a b h; simpa [placesF] using h
  | succ f ih =>
    intro a b h
    rcases Nat.lt_or_ge a s.length with hal | hal
    · obtain ⟨⟨t, n, e⟩, hx⟩ : ∃ x, nextF s a = x := ⟨_, rfl⟩
      by_cases he : e = 0
      · subst he
        have := nextF_ok hx
        by_cases hg : (getR t).2 = 0
        · by_cases ho : (getR t).1.at_ = b
          · rw [placesF_step hal hx hg ho]
            have := ih n (b + 1) (by omega)
            simp only [List.length_cons]; omega
          · rw [placesF_off hal hx hg ho]; simpa using h
        · rw [placesF_bad hal hx hg]; simpa using h
      · rw [placesF_stop hal hx he]; simpa using h
    · rw [placesF_end hal]; simpa using h
theorem scanS_len (s : List UInt8) (b : Int) : (scanS s b).1.length ≤ s.length := by
  unfold scanS
  split
  · have := placesF_len (s := s) (s.length + 1) 0 b (Nat.zero_le _); omega
  · simp
def indexM (l : List (Rec × Nat)) (base every : Int) : List Mk := l.foldl (fun o x => addM o base every (x.1.at_, x.2)) []
end Go.Proofs.YtijnkmjbfekajaaGreat

namespace Go.Proofs.YtijnkmjbfekajaaGreat
open Go.Vi
def cntM (l : List Mk) (off : Int) : Nat := l.countP fun m => decide (m.1 ≤ off)
theorem cnt_iff (off : Int) : ∀ (l : List Mk), l.Pairwise (fun a b => a.1 < b.1) → ∀ i (h : i < l.length), (l[i].1 ≤ off ↔ i < cntM l off) := by
  intro l
  induction l with
  | nil => intro _ i h; simp at h
  | cons m l ih =>
    intro hp i h
    rw [List.pairwise_cons] at hp
    unfold cntM
    rw [List.countP_cons]
    by_cases c : m.1 ≤ off
    · simp only [c, decide_true, if_true]
      cases i with
      | zero => simp [c]
      | succ i =>
        have := ih hp.2 i (by simpa using h)
        unfold cntM at this
        simp only [List.getElem_cons_succ]
        rw [this]; omega
    · have hz : ∀ x ∈ l, ¬ x.1 ≤ off := fun x hx => by have := hp.1 x hx; omega
      have h0 : l.countP (fun m => decide (m.1 ≤ off)) = 0 := by
        rw [List.countP_eq_zero]; intro x hx; simpa using hz x hx
      simp only [c, decide_false, h0]
      cases i with
      | zero => simp [c]
      | succ i =>
        have := hz _ (List.getElem_mem (by simpa using h : i < l.length))
        simp only [List.getElem_cons_succ]
        simp; omega
theorem cnt_le (l : List Mk) (off : Int) : cntM l off ≤ l.length := List.countP_le_length
def findV (l : List Mk) (off : Int) : V := match l[cntM l off - 1]? with
  | some m => if cntM l off = 0 then .tup [(true, [.d (.i .i64 0), .d (.i .i64 0)]), (false, [.d (.b false)])] else .tup [(true, (mkE m).map .d), (false, [.d (.b true)])]
  | none => .tup [(true, [.d (.i .i64 0), .d (.i .i64 0)]), (false, [.d (.b false)])]
set_option maxRecDepth 8000 in
theorem find_spec (l : List Mk) (hl : l.length ≤ 1000000) (hp : l.Pairwise (fun a b => a.1 < b.1)) (off : Int) : call 79 [vl (l.map mkE), vi off] [] = some (findV l off, []) := by
  apply enterS s79 rfl
  (simp (disch:=first|decide|omega|(intros;exact Eq.trans rfl rfl)|(simp only[puri];done)) only [a79, mkE_len, go_sem, seval, dis])
  refine loop_box (σ := Nat × Nat) (fun t => t.2 - t.1) (fun t => t.1 ≤ cntM l off ∧ cntM l off ≤ t.2 ∧ t.2 ≤ l.length) (fun t => [vl (l.map mkE), vi off, .one (.p 0 0), vi t.1, vi t.2]) (fun t => [.cells [.d (.i .i64 0), .d (.i .i64 0)]])
    (fun t => (findV l off, ([] : Hp))) ?_ (0, l.length) ⟨Nat.zero_le _, cnt_le l off, Nat.le_refl _⟩ _ _ (at_head2 (by decide) (by simp only [List.map_cons, List.map_nil, go_sem, seval]; exact rfl) (by simp [idsOf, reach, place_cons, place_nil, canonH, V.ren, L.ren, Box.ren, V.refs, L.refs, Box.refs, true_and]) (by simp [idsOf, reach, place_cons, place_nil, canonH, V.ren, L.ren, Box.ren, V.refs, L.refs, Box.refs, true_and]))
  rintro ⟨lo, hi⟩ ⟨h1, h2, h3⟩ R hR
  simp only at h1 h2 h3
  by_cases c : lo < hi
  · have hq : IntKind.i64.wrap (((lo : Int) + (hi : Int))) = ((lo + hi : Nat) : Int) := by rw [wrap_i (by omega)]; omega
    have hq2 : (((lo + hi : Nat) : Int)).tdiv 2 = (((lo + hi) / 2 : Nat) : Int) := by
      rw [Int.tdiv_eq_ediv_of_nonneg (by omega)]; omega
    have hmid : (lo + hi) / 2 < l.length := by omega
    have hc := cnt_iff off l hp _ hmid
    obtain ⟨mid, hm⟩ : ∃ mid, mid = (lo + hi) / 2 := ⟨_, rfl⟩
    simp only [← hm] at hq2 hmid hc
    have g1 : (l.map mkE)[mid]? = some (mkE l[mid]) := by simp [hmid]
    by_cases c2 : l[mid].1 ≤ off
    · have := hc.1 c2
      (simp (disch:=first|decide|omega|(intros;exact Eq.trans rfl rfl)|(simp only[puri];done)) only [a79_0, mkE_len, mkE_0, hq, hq2, g1, c2, go_sem, seval, dis])
      exact hR (mid + 1, hi) (by simp only []; omega) ⟨by simp only []; omega, h2, h3⟩ _ _ (at_head2 (by decide) (by simp only [List.map_cons, List.map_nil, go_sem, seval]; exact rfl) (by simp [idsOf, reach, place_cons, place_nil, canonH, V.ren, L.ren, Box.ren, V.refs, L.refs, Box.refs, true_and]) (by simp [idsOf, reach, place_cons, place_nil, canonH, V.ren, L.ren, Box.ren, V.refs, L.refs, Box.refs, true_and]))
    · have : ¬ mid < cntM l off := fun h => c2 (hc.2 h)
      (simp (disch:=first|decide|omega|(intros;exact Eq.trans rfl rfl)|(simp only[puri];done)) only [a79_0, mkE_len, mkE_0, hq, hq2, g1, c2, go_sem, seval, dis])
      exact hR (lo, mid) (by simp only []; omega) ⟨h1, by simp only []; omega, by simp only []; omega⟩ _ _ (at_head2 (by decide) (by simp only [List.map_cons, List.map_nil, go_sem, seval]; exact rfl) (by simp [idsOf, reach, place_cons, place_nil, canonH, V.ren, L.ren, Box.ren, V.refs, L.refs, Box.refs, true_and]) (by simp [idsOf, reach, place_cons, place_nil, canonH, V.ren, L.ren, Box.ren, V.refs, L.refs, Box.refs, true_and]))
  · have hlo : lo = cntM l off := by omega
    unfold findV
    rw [← hlo]
    by_cases c0 : lo = 0
    · (simp (disch:=first|decide|omega|(intros;exact Eq.trans rfl rfl)|(simp only[puri];done)) only [a79_0, mkE_len, c0, go_sem, seval, dis])
      subst c0
      split <;> simp
    · have hlt : lo - 1 < l.length := by omega
      have g1 : (l.map mkE)[lo - 1]? = some (mkE l[lo - 1]) := by simp [hlt]
      have g2 : l[lo - 1]? = some l[lo - 1] := by simp [hlt]
      have hto : ((lo : Int) - 1).toNat = lo - 1 := by omega
      (simp (disch:=first|decide|omega|(intros;exact Eq.trans rfl rfl)|(simp only[puri];done)) only [a79_0, mkE_len, mkE_tk, c0, g1, g2, hto, mkE, List.map_cons, List.map_nil, go_sem, seval, dis])
end Go.Proofs.YtijnkmjbfekajaaGreat

namespace Go.Proofs.YtijnkmjbfekajaaGreat
open Go.Vi
theorem indexM_len (b e : Int) : ∀ (l : List (Rec × Nat)), (indexM l b e).length ≤ l.length := by
  have key : ∀ (l : List (Rec × Nat)) (o : List Mk), (l.foldl (fun o x => addM o b e (x.1.at_, x.2)) o).length ≤ o.length + l.length := by
    intro l
    induction l with
    | nil => intro o; simp
    | cons x l ih =>
      intro o
      have := ih (addM o b e (x.1.at_, x.2))
      have h2 : (addM o b e (x.1.at_, x.2)).length ≤ o.length + 1 := by unfold addM; split <;> simp
      simp only [List.foldl_cons, List.length_cons]; omega
  intro l
  have := key l []
  unfold indexM
  simpa using this
theorem indexM_snoc (l : List (Rec × Nat)) (x : Rec × Nat) (b e : Int) : indexM (l ++ [x]) b e = addM (indexM l b e) b e (x.1.at_, x.2) := by
  simp [indexM, List.foldl_append]
def indexS (s : List UInt8) (b e : Int) : List Mk := indexM (scanS s b).1 b e
theorem placesF_get {s : List UInt8} : ∀ (f a : Nat) (b : Int) (k : Nat) (h : k < (placesF f s a b).1.length), a ≤ s.length → s.length < a + f →
    (placesF f s a b).1[k].1.at_ = b + k ∧ (placesF f s a b).1[k].2 < s.length ∧ (placesF (s.length + 1 - (placesF f s a b).1[k].2) s (placesF f s a b).1[k].2 (b + k)).1 = (placesF f s a b).1.drop k := by
  intro f
  induction f with
  | zero => intro a b k h ha hf; omega
  | succ f ih =>
    intro a b k h ha hf
    rcases Nat.lt_or_ge a s.length with hal | hal
    · obtain ⟨⟨t, n, e⟩, hx⟩ : ∃ x, nextF s a = x := ⟨_, rfl⟩
      by_cases he : e = 0
      · subst he
        have hok := nextF_ok hx
        by_cases hg : (getR t).2 = 0
        · by_cases ho : (getR t).1.at_ = b
          · have e1 := placesF_step (f := f) hal hx hg ho
            cases k with
            | zero =>
              simp only [e1, List.getElem_cons_zero, List.drop_zero]
              refine ⟨by simp [ho], hal, ?_⟩
              have : b + ((0 : Nat) : Int) = b := by simp
              rw [this, placesF_fuel (s.length + 1 - a) (f + 1) a b ha (by omega) (by omega), e1]
            | succ k =>
              have hk : k < (placesF f s n (b + 1)).1.length := by rw [e1] at h; simpa using h
              have := ih n (b + 1) k hk (by omega) (by omega)
              simp only [e1, List.getElem_cons_succ, List.drop_succ_cons]
              have e2 : b + ((k + 1 : Nat) : Int) = b + 1 + (k : Int) := by omega
              rw [e2]
              exact this
          · rw [placesF_off hal hx hg ho] at h; simp at h
        · rw [placesF_bad hal hx hg] at h; simp at h
      · rw [placesF_stop hal hx he] at h; simp at h
    · rw [placesF_end hal] at h; simp at h
end Go.Proofs.YtijnkmjbfekajaaGreat

namespace Go.Proofs.YtijnkmjbfekajaaGreat
open Go.Vi
def ixL (l : List (Rec × Nat)) (b e : Int) : L := match l with | [] => .ns | x :: l => .d (.l ((indexM (x :: l) b e).map mkE))
set_option maxRecDepth 8000 in
theorem index_spec (s : List UInt8) (hs : s.length ≤ 1000000) (b e : Int) (hb : -9223372036854775808 ≤ b ∧ b < 9223372036854775808) (hev : 1 ≤ e ∧ e ≤ 256) : call 43 [vs s, vi b, vi e] [] = some (vl ((indexS s b e).map mkE), []) := by
  apply enterM s43 rfl
  have hg := good_spec b hb
  unfold indexS scanS
  cases h : offN b with
  | false =>
    rw [h] at hg
    (simp (disch:=first|decide|omega|(intros;exact Eq.trans rfl rfl)|(simp only[puri];done)) only [a43, hg, go_sem, seval, dis, vdr, A.kind, A.xs, optX, visM])
    simp [indexM]
  | true =>
    rw [h] at hg
    have c1 : callIso call 80 [.one (.p 2 0)] [.cells [.d (.i .i64 b)], .cells [.d (.i .i64 e)], .cells [.d (.s s), .d (.i .i64 0), .d (.i .i64 b), .d (.i .i64 0)], .cells [.ns]] = some (.one (.f 115 [4]), [.cells [.d (.i .i64 b)], .cells [.d (.i .i64 e)], .cells [.d (.s s), .d (.i .i64 0), .d (.i .i64 b), .d (.i .i64 0)], .cells [.ns], .cells [.p 2 0]]) :=
      iso_at rfl rfl rfl (records_spec _) rfl
    (simp (disch:=first|decide|omega|(intros;exact Eq.trans rfl rfl)|(simp only[puri];done)) only [a43, hg, c1, go_sem, seval, dis, vdr, A.kind, A.xs, optX, visM])
    rw [M_rngS (gf := 115) (caps := [4]) (af := a115) (by rfl) s115 rfl]
    generalize hψ : roundRunU call _ _ _ _ = ψ
    (simp (disch:=first|decide|omega|(intros;exact Eq.trans rfl rfl)|(simp only[puri];done)) only [a115, go_sem, seval, dis, vdr, A.kind, A.xs, optX, visY, ↓ops_consY, ↓ops_conszY])
    have hr := fun (v : V) (H : Hp) => (congrFun (congrFun hψ.symm [v]) H).trans (round_e _ _ _ _ _ [v] H rfl)
    clear hψ
    have hb2 : 0 ≤ b ∧ b ≤ 1099511627776 := by simpa [offN] using h
    refine loop_boxY (N := 82) (m := 6) (σ := Nat × Int × List (Rec × Nat)) (fun t => s.length - t.1) (fun t => t.1 ≤ s.length ∧ t.2.2.length ≤ t.1 ∧ t.2.1 = b + t.2.2.length) (fun t => [V.one (.y 5 0), V.one (.p 4 0)])
      (fun t => [.cells [.d (.i .i64 b)], .cells [.d (.i .i64 e)], .cells [.d (.s s), .d (.i .i64 t.1), .d (.i .i64 t.2.1), .d (.i .i64 0)], .cells [ixL t.2.2 b e], .cells [.p 2 0], .dead])
      (fun t => (vl ((indexM (t.2.2 ++ (placesF (s.length + 1 - t.1) s t.1 t.2.1).1) b e).map mkE), ([] : Hp))) ?_ (0, b, []) ⟨Nat.zero_le _, by simp, by simp⟩ _ _ (at_headM (by decide) (by simp only [List.map_cons, List.map_nil, go_sem, seval]; exact rfl) (by rfl) (by rfl) (by rfl))
    rintro ⟨a, nx, out⟩ ⟨ha, hout, hnx⟩ R hR
    simp only at ha hout hnx
    rcases Nat.lt_or_ge a s.length with h | h
    · obtain ⟨f, hf⟩ : ∃ f, s.length + 1 - a = f + 1 := ⟨s.length - a, by omega⟩
      have hn := next_spec s a (by omega) (by omega)
      have htl := nextF_tlen s a
      obtain ⟨⟨t, n, e'⟩, hx⟩ : ∃ x, nextF s a = x := ⟨_, rfl⟩
      rw [hx] at hn htl
      by_cases he : e' = 0
      · subst he
        have hok := nextF_ok hx
        have hg := get_spec t (by simp only [] at htl; omega)
        have hst := @placesF_step s t a n f nx h hx
        have hof := @placesF_off s t a n f nx h hx
        have hbd := @placesF_bad s t a n f nx h hx
        obtain ⟨⟨r, g⟩, hq⟩ : ∃ x, getR t = x := ⟨_, rfl⟩
        rw [hq] at hg hst hof hbd
        simp only [recV] at hg hst hbd hof
        by_cases hz : g = 0
        · subst hz
          by_cases ho : r.at_ = nx
          · simp only [hf, hst rfl ho]
            subst ho
            have e3 : placesF f s n (r.at_ + 1) = placesF (s.length + 1 - n) s n (r.at_ + 1) := placesF_fuel _ _ n _ hok.2 (by omega) (by omega)
            have hll := indexM_len b e out
            have had := add_spec (indexM out b e) (by omega) b e (r.at_, (a : Int)) hb2 hev (by simp only []; omega)
            rw [← indexM_snoc out (r, a)] at had
            rcases out with _ | ⟨x, out⟩
            · simp only [List.length_nil] at hnx hout
              simp only [show indexM [] b e = [] from rfl, List.map_nil] at had
              (simp (disch:=first|decide|omega|(intros;exact Eq.trans rfl rfl)|(simp only[puri];done)) only [a115_0, hn, nextV, hg, Rec.len, Rec.tk, Rec.tkL, Rec.dat, Rec.lenL, Rec.enc, List.map_cons, List.map_nil, List.getElem?_cons_zero, ixL, List.append_nil, go_sem, seval, dis, vdr, A.kind, A.xs, optX, visY, ↓ops_consY, ↓ops_conszY])
              rw [hr]
              (simp (disch:=first|decide|omega|(intros;exact Eq.trans rfl rfl)|(simp only[puri];done)) only [visY, had, go_sem, seval, dis, vdr, A.kind, A.xs, optX])
              (simp (disch:=first|decide|omega|(intros;exact Eq.trans rfl rfl)|(simp only[puri];done)) only [go_sem, seval, dis, vdr, A.kind, A.xs, optX, visY, ↓ops_consY, ↓ops_conszY])
              have hR' := hR (n, r.at_ + 1, [(r, a)]) (by simp only []; omega) ⟨hok.2, by simp; omega, by simp; omega⟩
              simp only [List.singleton_append, ← e3] at hR'
              exact hR' _ _ (at_headM (by decide) (by simp only [List.map_cons, List.map_nil, go_sem, seval]; exact rfl) (by rfl) (by rfl) (by rfl))
            · simp only [List.length_cons] at hnx hout
              (simp (disch:=first|decide|omega|(intros;exact Eq.trans rfl rfl)|(simp only[puri];done)) only [a115_0, hn, nextV, hg, Rec.len, Rec.tk, Rec.tkL, Rec.dat, Rec.lenL, Rec.enc, List.map_cons, List.map_nil, List.getElem?_cons_zero, ixL, List.append_nil, go_sem, seval, dis, vdr, A.kind, A.xs, optX, visY, ↓ops_consY, ↓ops_conszY])
              rw [hr]
              (simp (disch:=first|decide|omega|(intros;exact Eq.trans rfl rfl)|(simp only[puri];done)) only [visY, had, go_sem, seval, dis, vdr, A.kind, A.xs, optX])
              (simp (disch:=first|decide|omega|(intros;exact Eq.trans rfl rfl)|(simp only[puri];done)) only [go_sem, seval, dis, vdr, A.kind, A.xs, optX, visY, ↓ops_consY, ↓ops_conszY])
              have hR' := hR (n, r.at_ + 1, (x :: out) ++ [(r, a)]) (by simp only []; omega) ⟨hok.2, by simp; omega, by simp; omega⟩
              simp only [List.append_assoc, List.singleton_append, ← e3, ixL, List.cons_append] at hR'
              exact hR' _ _ (at_headM (by decide) (by simp only [List.map_cons, List.map_nil, go_sem, seval]; exact rfl) (by rfl) (by rfl) (by rfl))
          · simp only [hf, hof rfl ho]
            rcases out with _ | ⟨x, out⟩
            all_goals ((simp (disch:=first|decide|omega|(intros;exact Eq.trans rfl rfl)|(simp only[puri];done)) only [a115_0, hn, nextV, hg, Rec.len, Rec.tk, Rec.tkL, Rec.dat, Rec.lenL, Rec.enc, List.map_cons, List.map_nil, List.getElem?_cons_zero, ixL, List.append_nil, ho, go_sem, seval, dis, vdr, A.kind, A.xs, optX, visY, ↓ops_consY, ↓ops_conszY]))
            all_goals rw [rngK_r (q := 5) (k := 0) (by decide) rfl]
            all_goals (simp (disch:=first|decide|omega|(intros;exact Eq.trans rfl rfl)|(simp only[puri];done)) only [visY, go_sem, seval, dis, vdr, A.kind, A.xs, optX, visM])
            all_goals simp [indexM]
        · simp only [hf, hbd hz]
          rcases out with _ | ⟨x, out⟩
          all_goals ((simp (disch:=first|decide|omega|(intros;exact Eq.trans rfl rfl)|(simp only[puri];done)) only [a115_0, hn, nextV, hg, Rec.len, Rec.tk, Rec.tkL, Rec.dat, Rec.lenL, Rec.enc, List.map_cons, List.map_nil, List.getElem?_cons_zero, ixL, List.append_nil, hz, go_sem, seval, dis, vdr, A.kind, A.xs, optX, visY, ↓ops_consY, ↓ops_conszY]))
          all_goals rw [rngK_r (q := 5) (k := 0) (by decide) rfl]
          all_goals (simp (disch:=first|decide|omega|(intros;exact Eq.trans rfl rfl)|(simp only[puri];done)) only [visY, go_sem, seval, dis, vdr, A.kind, A.xs, optX, visM])
          all_goals simp [indexM]
      · simp only [hf, placesF_stop h hx he]
        rcases out with _ | ⟨x, out⟩
        all_goals ((simp (disch:=first|decide|omega|(intros;exact Eq.trans rfl rfl)|(simp only[puri];done)) only [a115_0, hn, nextV, ixL, List.append_nil, he, go_sem, seval, dis, vdr, A.kind, A.xs, optX, visY, ↓ops_consY, ↓ops_conszY]))
        all_goals rw [rngK_r (q := 5) (k := 0) (by decide) rfl]
        all_goals (simp (disch:=first|decide|omega|(intros;exact Eq.trans rfl rfl)|(simp only[puri];done)) only [visY, go_sem, seval, dis, vdr, A.kind, A.xs, optX, visM])
        all_goals simp [indexM]
    · rw [placesF_end h]
      have ea : a = s.length := by omega
      rcases out with _ | ⟨x, out⟩
      all_goals ((simp (disch:=first|decide|omega|(intros;exact Eq.trans rfl rfl)|(simp only[puri];done)) only [a115_0, ixL, List.append_nil, ea, go_sem, seval, dis, vdr, A.kind, A.xs, optX, visY, ↓ops_consY, ↓ops_conszY]))
      all_goals rw [rngK_n (q := 5) (k := 0) (by decide) rfl]
      all_goals (simp (disch:=first|decide|omega|(intros;exact Eq.trans rfl rfl)|(simp only[puri];done)) only [visY, go_sem, seval, dis, vdr, A.kind, A.xs, optX, visM])
      all_goals simp [indexM]
end Go.Proofs.YtijnkmjbfekajaaGreat

namespace Go.Proofs.YtijnkmjbfekajaaGreat
open Go.Vi
abbrev zcell : Box := .cells [.d (.i .i64 0), .d (.i .i64 0), .d (.s [])]
set_option maxRecDepth 8000 in
theorem segRead_none (s : List UInt8) (b off : Int) (l : List Mk)
    (hfd : call 79 [vl (l.map mkE), vi off] [] = some (.tup [(true, [.d (.i .i64 0), .d (.i .i64 0)]), (false, [.d (.b false)])], [])) :
    call 42 [vs s, vi b, vl (l.map mkE), vi off] [] = some (readL [] off, []) := by
  apply enterM s42 rfl
  (simp (disch:=first|decide|omega|(intros;exact Eq.trans rfl rfl)|(simp only[puri];done)) only [a42, hfd, go_sem, seval, dis, vdr, A.kind, A.xs, optX, visM])
  try simp [readL]
set_option maxRecDepth 8000 in
theorem segRead_some (s : List UInt8) (hs : s.length ≤ 1000000) (b off : Int) (l : List Mk) (p : Nat) (hp : p ≤ s.length) (om : Int) (hom : 0 ≤ om ∧ om ≤ 4611686018427387904)
    (hfd : call 79 [vl (l.map mkE), vi off] [] = some (.tup [(true, [.d (.i .i64 om), .d (.i .i64 (p : Int))]), (false, [.d (.b true)])], [])) :
    call 42 [vs s, vi b, vl (l.map mkE), vi off] [] = some (readL ((placesF (s.length + 1 - p) s p om).1.map (·.1)) off, []) := by
  apply enterM s42 rfl
  have c1 : callIso call 80 [.one (.p 4 0)] [.cells [.d (.i .i64 off)], zcell, .cells [.d (.i .i64 0)], .cells [.d (.i .i64 om), .d (.i .i64 (p : Int))], .cells [.d (.s s), .d (.i .i64 (p : Int)), .d (.i .i64 om), .d (.i .i64 0)]] = some (.one (.f 115 [5]), [.cells [.d (.i .i64 off)], zcell, .cells [.d (.i .i64 0)], .cells [.d (.i .i64 om), .d (.i .i64 (p : Int))], .cells [.d (.s s), .d (.i .i64 (p : Int)), .d (.i .i64 om), .d (.i .i64 0)], .cells [.p 4 0]]) :=
    iso_at rfl rfl rfl (records_spec _) rfl
  simp only [zcell] at c1
  (simp (disch:=first|decide|omega|(intros;exact Eq.trans rfl rfl)|(simp only[puri];done)) only [a42, hfd, c1, go_sem, seval, dis, vdr, A.kind, A.xs, optX, visM])
  rw [M_rngS (gf := 115) (caps := [5]) (af := a115) (by rfl) s115 rfl]
  generalize hψ : roundRunU call _ _ _ _ = ψ
  (simp (disch:=first|decide|omega|(intros;exact Eq.trans rfl rfl)|(simp only[puri];done)) only [a115, go_sem, seval, dis, vdr, A.kind, A.xs, optX, visY, ↓ops_consY, ↓ops_conszY])
  have hr := fun (v : V) (H : Hp) => (congrFun (congrFun hψ.symm [v]) H).trans (round_e _ _ _ _ _ [v] H rfl)
  clear hψ
  refine loop_boxY (N := 82) (m := 7) (σ := Nat × Int) (fun t => s.length - t.1) (fun t => t.1 ≤ s.length ∧ 0 ≤ t.2 ∧ t.2 ≤ om + t.1) (fun t => [V.one (.y 6 0), V.one (.p 5 0)])
    (fun t => [.cells [.d (.i .i64 off)], zcell, .cells [.d (.i .i64 0)], .cells [.d (.i .i64 om), .d (.i .i64 (p : Int))], .cells [.d (.s s), .d (.i .i64 t.1), .d (.i .i64 t.2), .d (.i .i64 0)], .cells [.p 4 0], .dead])
    (fun t => (readL ((placesF (s.length + 1 - t.1) s t.1 t.2).1.map (·.1)) off, ([] : Hp))) ?_ (p, om) ⟨hp, hom.1, by simp only []; omega⟩ _ _ ?_
  rotate_left
  · exact (at_headM (by decide) (by simp only [List.map_cons, List.map_nil, go_sem, seval]; exact rfl) (by rfl) (by rfl) (by rfl))
  rintro ⟨a, nx⟩ ⟨ha, hnx0, hnx⟩ R hR
  simp only at ha hnx hnx0
  simp only [zcell]
  rcases Nat.lt_or_ge a s.length with h | h
  · obtain ⟨f, hf⟩ : ∃ f, s.length + 1 - a = f + 1 := ⟨s.length - a, by omega⟩
    have hn := next_spec s a (by omega) (by omega)
    have htl := nextF_tlen s a
    obtain ⟨⟨t, n, e'⟩, hx⟩ : ∃ x, nextF s a = x := ⟨_, rfl⟩
    rw [hx] at hn htl
    by_cases he : e' = 0
    · subst he
      have hok := nextF_ok hx
      have hg := get_spec t (by simp only [] at htl; omega)
      have hst := @placesF_step s t a n f nx h hx
      have hof := @placesF_off s t a n f nx h hx
      have hbd := @placesF_bad s t a n f nx h hx
      obtain ⟨⟨r, g⟩, hq⟩ : ∃ x, getR t = x := ⟨_, rfl⟩
      rw [hq] at hg hst hof hbd
      simp only [recV] at hg hst hbd hof
      by_cases hz : g = 0
      · subst hz
        by_cases ho : r.at_ = nx
        · simp only [hf, hst rfl ho]
          subst ho
          have e3 : placesF f s n (r.at_ + 1) = placesF (s.length + 1 - n) s n (r.at_ + 1) := placesF_fuel _ _ n _ hok.2 (by omega) (by omega)
          (simp (disch:=first|decide|omega|(intros;exact Eq.trans rfl rfl)|(simp only[puri];done)) only [a115_0, hn, nextV, hg, Rec.len, Rec.tk, Rec.tkL, Rec.dat, Rec.lenL, Rec.enc, List.map_cons, List.map_nil, List.getElem?_cons_zero, go_sem, seval, dis, vdr, A.kind, A.xs, optX, visY, ↓ops_consY, ↓ops_conszY])
          rw [hr]
          by_cases co : r.at_ = off
          · (simp (disch:=first|decide|omega|(intros;exact Eq.trans rfl rfl)|(simp only[puri];done)) only [visY, co, go_sem, seval, dis, vdr, A.kind, A.xs, optX])
            (simp (disch:=first|decide|omega|(intros;exact Eq.trans rfl rfl)|(simp only[puri];done)) only [go_sem, seval, dis, vdr, A.kind, A.xs, optX, visY, ↓ops_consY, ↓ops_conszY])
            rw [rngK_r (q := 6) (k := 1) (by decide) rfl]
            (simp (disch:=first|decide|omega|(intros;exact Eq.trans rfl rfl)|(simp only[puri];done)) only [visY, go_sem, seval, dis, vdr, A.kind, A.xs, optX, visM])
            simp [readL, co, Rec.enc]
          · (simp (disch:=first|decide|omega|(intros;exact Eq.trans rfl rfl)|(simp only[puri];done)) only [visY, co, go_sem, seval, dis, vdr, A.kind, A.xs, optX])
            (simp (disch:=first|decide|omega|(intros;exact Eq.trans rfl rfl)|(simp only[puri];done)) only [go_sem, seval, dis, vdr, A.kind, A.xs, optX, visY, ↓ops_consY, ↓ops_conszY])
            have hR' := hR (n, r.at_ + 1) (by simp only []; omega) ⟨hok.2, by simp only []; omega, by simp only []; omega⟩
            have e4 : readL ((r, a).1 :: List.map (·.1) (placesF f s n (r.at_ + 1)).1) off = readL (List.map (·.1) (placesF f s n (r.at_ + 1)).1) off := by
              unfold readL; rw [List.find?_cons, decide_eq_false co]
            simp only [← e3] at hR'
            rw [← e4] at hR'
            exact hR' _ _ (at_headM (by decide) (by simp only [List.map_cons, List.map_nil, go_sem, seval]; exact rfl) (by rfl) (by rfl) (by rfl))
        · simp only [hf, hof rfl ho]
          (simp (disch:=first|decide|omega|(intros;exact Eq.trans rfl rfl)|(simp only[puri];done)) only [a115_0, hn, nextV, hg, Rec.len, Rec.tk, Rec.tkL, Rec.dat, Rec.lenL, Rec.enc, List.map_cons, List.map_nil, List.getElem?_cons_zero, ho, go_sem, seval, dis, vdr, A.kind, A.xs, optX, visY, ↓ops_consY, ↓ops_conszY])
          rw [rngK_r (q := 6) (k := 0) (by decide) rfl]
          (simp (disch:=first|decide|omega|(intros;exact Eq.trans rfl rfl)|(simp only[puri];done)) only [visY, go_sem, seval, dis, vdr, A.kind, A.xs, optX, visM])
          simp [readL]
      · simp only [hf, hbd hz]
        (simp (disch:=first|decide|omega|(intros;exact Eq.trans rfl rfl)|(simp only[puri];done)) only [a115_0, hn, nextV, hg, Rec.len, Rec.tk, Rec.tkL, Rec.dat, Rec.lenL, Rec.enc, List.map_cons, List.map_nil, List.getElem?_cons_zero, hz, go_sem, seval, dis, vdr, A.kind, A.xs, optX, visY, ↓ops_consY, ↓ops_conszY])
        rw [rngK_r (q := 6) (k := 0) (by decide) rfl]
        (simp (disch:=first|decide|omega|(intros;exact Eq.trans rfl rfl)|(simp only[puri];done)) only [visY, go_sem, seval, dis, vdr, A.kind, A.xs, optX, visM])
        simp [readL]
    · simp only [hf, placesF_stop h hx he]
      (simp (disch:=first|decide|omega|(intros;exact Eq.trans rfl rfl)|(simp only[puri];done)) only [a115_0, hn, nextV, he, go_sem, seval, dis, vdr, A.kind, A.xs, optX, visY, ↓ops_consY, ↓ops_conszY])
      rw [rngK_r (q := 6) (k := 0) (by decide) rfl]
      (simp (disch:=first|decide|omega|(intros;exact Eq.trans rfl rfl)|(simp only[puri];done)) only [visY, go_sem, seval, dis, vdr, A.kind, A.xs, optX, visM])
      simp [readL]
  · rw [placesF_end h]
    have ea : a = s.length := by omega
    (simp (disch:=first|decide|omega|(intros;exact Eq.trans rfl rfl)|(simp only[puri];done)) only [a115_0, ea, go_sem, seval, dis, vdr, A.kind, A.xs, optX, visY, ↓ops_consY, ↓ops_conszY])
    rw [rngK_n (q := 6) (k := 0) (by decide) rfl]
    (simp (disch:=first|decide|omega|(intros;exact Eq.trans rfl rfl)|(simp only[puri];done)) only [visY, go_sem, seval, dis, vdr, A.kind, A.xs, optX, visM])
    simp [readL]
end Go.Proofs.YtijnkmjbfekajaaGreat

