import Derived.Test.YtoehimghaanjfaaVib
set_option linter.unusedSimpArgs false
set_option linter.unusedVariables false
/- An interpreter of values: what it answers the program answers. -/
namespace Go.Vi
set_option linter.unusedSimpArgs false
set_option linter.unusedVariables false
set_option linter.defProp false

/-! ### numbers of other kinds, and bits, for walks -/
theorem bits_ofInt (n : Nat) (x : BitVec n) : BitVec.ofInt n ((x.toNat : Nat) : Int) = x := by
  apply BitVec.eq_of_toNat_eq; simp
theorem wrap_bv32 (x : W32) : IntKind.u32.wrap ((x.toNat : Nat) : Int) = ((x.toNat : Nat) : Int) := wrap_u32 (by have := x.isLt; omega)
theorem ofInt_lit32 (n : Nat) (h : n < 4294967296) : BitVec.ofInt 32 (n : Int) = BitVec.ofNat 32 n := by
  apply BitVec.eq_of_toNat_eq; simp
theorem xor32 (x y : W32) : binD .xor (.i .u32 ((x.toNat : Nat) : Int)) (.i .u32 ((y.toNat : Nat) : Int)) = some (.i .u32 (((x ^^^ y).toNat : Nat) : Int)) := by
  simp only [binD, ne_eq, not_true_eq_false, if_false]
  rw [show IntKind.u32.bits = 32 from rfl, bits_ofInt, bits_ofInt, wrap_bv32]
theorem xorP32 (x : W32) : binD .xor (.i .u32 ((x.toNat : Nat) : Int)) (.i .u32 2197175160) = some (.i .u32 (((x ^^^ crcP).toNat : Nat) : Int)) := xor32 x crcP
theorem and15 (x : W32) : binD .and (.i .u32 ((x.toNat : Nat) : Int)) (.i .u32 15) = some (.i .u32 (((x &&& 15#32).toNat : Nat) : Int)) := by
  simp only [binD, ne_eq, not_true_eq_false, if_false]
  rw [show IntKind.u32.bits = 32 from rfl, bits_ofInt, show BitVec.ofInt 32 15 = 15#32 from rfl, wrap_bv32]
theorem and1 (x : W32) : binD .and (.i .u32 ((x.toNat : Nat) : Int)) (.i .u32 1) = some (.i .u32 (((x &&& 1#32).toNat : Nat) : Int)) := by
  simp only [binD, ne_eq, not_true_eq_false, if_false]
  rw [show IntKind.u32.bits = 32 from rfl, bits_ofInt, show BitVec.ofInt 32 1 = 1#32 from rfl, wrap_bv32]
theorem not32 (x : W32) : unD .xor (.i .u32 ((x.toNat : Nat) : Int)) = some (.i .u32 (((~~~x).toNat : Nat) : Int)) := by
  simp only [unD]
  rw [show IntKind.u32.bits = 32 from rfl, show IntKind.u32.signed = false from rfl, bits_ofInt]
  have : BitVec.ofInt 32 (if false = true then -1 else IntKind.u32.max) = BitVec.allOnes 32 := by decide
  rw [this, BitVec.allOnes_xor, wrap_bv32]
theorem fdiv_nat (a b : Nat) : ((a : Nat) : Int).fdiv ((b : Nat) : Int) = ((a / b : Nat) : Int) := by
  rw [Int.fdiv_eq_ediv_of_nonneg _ (by omega)]; simp
theorem shr32 (x : W32) (n : Nat) (hn : n ≤ 32) (k : IntKind) : binD .shr (.i .u32 ((x.toNat : Nat) : Int)) (.i k ((n : Nat) : Int)) = some (.i .u32 (((x >>> n).toNat : Nat) : Int)) := by
  simp only [binD]
  rw [if_neg (by omega), show IntKind.u32.bits = 32 from rfl, Int.toNat_natCast, Nat.min_eq_left hn]
  have := fdiv_nat x.toNat (2 ^ n)
  rw [show ((2 ^ n : Nat) : Int) = (2 : Int) ^ n by simp] at this
  rw [this, BitVec.toNat_ushiftRight, Nat.shiftRight_eq_div_pow]
theorem shr32_1 (x : W32) (k : IntKind) : binD .shr (.i .u32 ((x.toNat : Nat) : Int)) (.i k 1) = some (.i .u32 (((x >>> 1).toNat : Nat) : Int)) := shr32 x 1 (by decide) k
theorem shr32_4 (x : W32) (k : IntKind) : binD .shr (.i .u32 ((x.toNat : Nat) : Int)) (.i k 4) = some (.i .u32 (((x >>> 4).toNat : Nat) : Int)) := shr32 x 4 (by decide) k
theorem shr32_8 (x : W32) (k : IntKind) : binD .shr (.i .u32 ((x.toNat : Nat) : Int)) (.i k 8) = some (.i .u32 (((x >>> 8).toNat : Nat) : Int)) := shr32 x 8 (by decide) k
theorem shr32_16 (x : W32) (k : IntKind) : binD .shr (.i .u32 ((x.toNat : Nat) : Int)) (.i k 16) = some (.i .u32 (((x >>> 16).toNat : Nat) : Int)) := shr32 x 16 (by decide) k
theorem shr32_24 (x : W32) (k : IntKind) : binD .shr (.i .u32 ((x.toNat : Nat) : Int)) (.i k 24) = some (.i .u32 (((x >>> 24).toNat : Nat) : Int)) := shr32 x 24 (by decide) k
theorem quo32_2 (x : W32) : binD .quo (.i .u32 ((x.toNat : Nat) : Int)) (.i .u32 2) = some (.i .u32 (((x >>> 1).toNat : Nat) : Int)) := by
  simp only [binD, ne_eq, not_true_eq_false, if_false]
  rw [if_neg (by decide), Int.tdiv_eq_ediv_of_nonneg (by omega)]
  have : ((x.toNat : Nat) : Int) / (2 : Int) = (((x >>> 1).toNat : Nat) : Int) := by
    rw [BitVec.toNat_ushiftRight, Nat.shiftRight_eq_div_pow]
    omega
  rw [this, wrap_bv32]
theorem rem32_2 (x : W32) : binD .rem (.i .u32 ((x.toNat : Nat) : Int)) (.i .u32 2) = some (.i .u32 (bif x.getLsbD 0 then 1 else 0)) := by
  simp only [binD, ne_eq, not_true_eq_false, if_false]
  rw [if_neg (by decide), Int.tmod_eq_emod_of_nonneg (by omega)]
  have : x.getLsbD 0 = decide (x.toNat % 2 = 1) := by
    rw [BitVec.getLsbD, Nat.testBit_zero]
  rw [this]
  by_cases h : x.toNat % 2 = 1
  · have e : ((x.toNat : Nat) : Int) % 2 = 1 := by omega
    simp [h, e]
  · have e : ((x.toNat : Nat) : Int) % 2 = 0 := by omega
    have e' : ¬ x.toNat % 2 = 1 := h
    simp [e', e]
theorem cvi32_byte (c : UInt8) : IntKind.u32.wrap ((c.toNat : Nat) : Int) = (((BitVec.ofNat 32 c.toNat).toNat : Nat) : Int) := by
  have := c.toNat_lt
  rw [wrap_u32 (by omega)]
  simp
theorem wrap8_nat (n : Nat) : IntKind.u8.wrap ((n : Nat) : Int) = ((n % 256 : Nat) : Int) := by
  simp [IntKind.wrap, IntKind.bits, IntKind.signed]
theorem byte_mod (n : Nat) : UInt8.ofNat (n % 256) = UInt8.ofNat n := by
  apply UInt8.toNat_inj.1; simp
theorem bytesOf_nil : bytesOf [] = some [] := Eq.trans rfl rfl
theorem bytesOf_cons (n : Int) (r : List (List D)) : bytesOf ([.i .u8 n] :: r) = match bytesOf r with | some bs => some (UInt8.ofNat n.toNat :: bs) | none => none := Eq.trans rfl rfl
theorem bytesOf_rows : ∀ l : List UInt8, bytesOf (rowsOfBytes l) = some l
  | [] => rfl
  | c :: l => by
    have e : rowsOfBytes (c :: l) = [.i .u8 ((c.toNat : Nat) : Int)] :: rowsOfBytes l := rfl
    rw [e, bytesOf_cons, bytesOf_rows l]; simp
theorem okRows_bytes (l : List UInt8) : okRows 1 (rowsOfBytes l) = true := by simp [okRows, rowsOfBytes]
theorem rowsOfBytes_len (l : List UInt8) : (rowsOfBytes l).length = l.length := by simp [rowsOfBytes]
/-- a sum's bytes -/
def four (x : W32) : List UInt8 := [UInt8.ofNat x.toNat, UInt8.ofNat (x >>> 8).toNat, UInt8.ofNat (x >>> 16).toNat, UInt8.ofNat (x >>> 24).toNat]
/-- strings: one byte -/
theorem str_get (l : List UInt8) (k : Nat) (h : k < l.length) : l[k]? = some (l[k]'h) := by simp [h]
/-- rules that go ahead of others -/
def bit32 := And.intro @xor32 (And.intro @xorP32 (And.intro @and15 (And.intro @not32 (And.intro @shr32_1 (And.intro @shr32_4 (And.intro @shr32_8 (And.intro @shr32_16 (And.intro @shr32_24 (And.intro @quo32_2 @rem32_2)))))))))
end Go.Vi

namespace Go.Vi
set_option linter.unusedSimpArgs false
set_option linter.unusedVariables false
/-! the table -/
def tabW : List L := (List.range 16).map fun i => L.d (.i .u32 (((crcN 4 (BitVec.ofNat 32 i)).toNat : Nat) : Int))
def tabK (k : Nat) : List L := (List.range 16).map fun i => L.d (.i .u32 (if i < k then (((crcN 4 (BitVec.ofNat 32 i)).toNat : Nat) : Int) else 0))
theorem tabK_len (k : Nat) : (tabK k).length = 16 := by simp [tabK]
theorem tabK_16 : tabK 16 = tabW := by
  unfold tabK tabW
  apply List.map_congr_left
  intro i hi
  rw [if_pos (by simpa using hi)]
theorem tabK_0 : tabK 0 = List.replicate 16 (L.d (.i .u32 0)) := by rfl
theorem tabK_set (k : Nat) (hk : k < 16) : (tabK k).take k ++ [L.d (.i .u32 (((crcN 4 (BitVec.ofNat 32 k)).toNat : Nat) : Int))] ++ (tabK k).drop (k + 1) = tabK (k + 1) := by
  have e : (tabK k).take k ++ [L.d (.i .u32 (((crcN 4 (BitVec.ofNat 32 k)).toNat : Nat) : Int))] ++ (tabK k).drop (k + 1) = (tabK k).set k (L.d (.i .u32 (((crcN 4 (BitVec.ofNat 32 k)).toNat : Nat) : Int))) := by
    rw [List.set_eq_take_append_cons_drop, if_pos (by rw [tabK_len]; exact hk)]; simp
  rw [e]
  apply List.ext_getElem?
  intro i
  rw [List.getElem?_set, tabK_len]
  by_cases h : k = i
  · subst h
    simp [tabK, hk]
  · rw [if_neg h]
    simp only [tabK, List.getElem?_map]
    rcases Nat.lt_or_ge i 16 with hi | hi
    · rw [List.getElem?_range hi]
      simp only [Option.map_some]
      have : (i < k) = (i < k + 1) := by rw [eq_iff_iff]; omega
      simp only [this]
    · rw [List.getElem?_eq_none (by simpa using hi)]; rfl
theorem tableStep (x : W32) : binD .and (.i .u32 2197175160) (.i .u32 (IntKind.u32.wrap (0 - (((x &&& 1#32).toNat : Nat) : Int)))) = some (.i .u32 (((sel (x.getLsbD 0) crcP).toNat : Nat) : Int)) := by
  have h1 : (x &&& 1#32).toNat = if x.getLsbD 0 = true then 1 else 0 := by
    have : x &&& 1#32 = if x.getLsbD 0 = true then 1#32 else 0#32 := by
      apply BitVec.eq_of_getLsbD_eq
      intro i hi
      rw [BitVec.getLsbD_and]
      cases i with
      | zero => cases hx : x.getLsbD 0 <;> simp
      | succ i =>
        have : (1#32 : W32).getLsbD (i + 1) = false := by simp
        rw [this, Bool.and_false]
        split <;> simp
    rw [this]; split <;> rfl
  rw [h1]
  cases hx : x.getLsbD 0 with
  | true => rfl
  | false => rfl

theorem tabW_at (x : W32) : tabW[(x &&& 15#32).toNat]? = some (.d (.i .u32 (((crcN 4 (x &&& 15#32)).toNat : Nat) : Int))) := by
  have h : (x &&& 15#32).toNat < 16 := by
    rw [BitVec.toNat_and]
    exact Nat.lt_of_le_of_lt Nat.and_le_right (by decide)
  simp only [tabW, List.getElem?_map, List.getElem?_range h, Option.map_some]
  rw [BitVec.ofNat_toNat, BitVec.setWidth_eq]
theorem and15_lt (x : W32) : (x &&& 15#32).toNat < 16 := by
  rw [BitVec.toNat_and]
  exact Nat.lt_of_le_of_lt Nat.and_le_right (by decide)
theorem tabW_len : tabW.length = 16 := by simp [tabW]
theorem tabK_refs (k : Nat) : (tabK k).flatMap L.refs = [] := by
  rw [List.flatMap_eq_nil_iff]
  intro x hx
  simp only [tabK, List.mem_map] at hx
  obtain ⟨i, _, rfl⟩ := hx
  rfl
theorem tabK_ren (k : Nat) (ρ : Nat → Option Nat) : (tabK k).map (L.ren ρ) = tabK k := by
  conv => rhs; rw [← List.map_id (tabK k)]
  apply List.map_congr_left
  intro x hx
  simp only [tabK, List.mem_map] at hx
  obtain ⟨i, _, rfl⟩ := hx
  rfl
theorem tabW_refs : tabW.flatMap L.refs = [] := by rw [← tabK_16]; exact tabK_refs 16
theorem tabW_ren (ρ : Nat → Option Nat) : tabW.map (L.ren ρ) = tabW := by rw [← tabK_16]; exact tabK_ren 16 ρ
theorem tabW_pure : tabW.all L.pure = true := by
  rw [List.all_eq_true]
  intro x hx
  simp only [tabW, List.mem_map] at hx
  obtain ⟨i, _, rfl⟩ := hx
  rfl
theorem tabW_fz (H : Hp) : fzLs tabW H = some (tabW, H) := by
  have : tabW = ((List.range 16).map fun i => (D.i .u32 (((crcN 4 (BitVec.ofNat 32 i)).toNat : Nat) : Int))).map L.d := by simp only [tabW, List.map_map]; rfl
  rw [this]; exact fzLs_map _ H
end Go.Vi

namespace Go.Vi
set_option linter.unusedSimpArgs false
set_option linter.unusedVariables false

/-! ### how many bits -/
def blen (n : Nat) : Nat := if n = 0 then 0 else Nat.log2 n + 1
theorem blen_le (n j : Nat) : blen n ≤ j ↔ n < 2 ^ j := by
  unfold blen
  by_cases h : n = 0
  · subst h; simp [Nat.pow_pos]
  · rw [if_neg h, Nat.succ_le_iff, Nat.log2_lt h]
theorem blen_shift (n j : Nat) (h : 2 ^ j ≤ n) : blen n = blen (n / 2 ^ j) + j := by
  apply Nat.le_antisymm
  · rw [blen_le, Nat.pow_add]
    have := (blen_le (n / 2 ^ j) (blen (n / 2 ^ j))).1 (Nat.le_refl _)
    rwa [Nat.div_lt_iff_lt_mul (Nat.pow_pos (by decide))] at this
  · have h0 : j < blen n := by
      have := (not_congr (blen_le n j)).2 (by omega); omega
    have : blen (n / 2 ^ j) ≤ blen n - j := by
      rw [blen_le, Nat.div_lt_iff_lt_mul (Nat.pow_pos (by decide)), ← Nat.pow_add]
      have := (blen_le n (blen n)).1 (Nat.le_refl _)
      rwa [Nat.sub_add_cancel (by omega)]
    omega
theorem nd_blen (n : Nat) : max 1 ((blen n + 6) / 7) = nd n := by
  have hp := nd_pos n
  obtain ⟨k, hk⟩ : ∃ k, nd n = k + 1 := ⟨nd n - 1, by omega⟩
  obtain ⟨h1, h2⟩ := (nd_range k n).1 hk
  have e : ∀ j, (128 : Nat) ^ j = 2 ^ (7 * j) := fun j => by rw [Nat.pow_mul]
  have u : blen n ≤ 7 * (k + 1) := by rw [blen_le, ← e]; exact h1
  rcases h2 with h2 | h2
  · omega
  · have l : ¬ blen n ≤ 7 * k := by rw [blen_le, ← e]; omega
    omega
theorem len8_all : ∀ m, m < 256 → ([0, 1, 2, 2, 3, 3, 3, 3, 4, 4, 4, 4, 4, 4, 4, 4, 5, 5, 5, 5, 5, 5, 5, 5, 5, 5, 5, 5, 5, 5, 5, 5, 6, 6, 6, 6, 6, 6, 6, 6, 6, 6, 6, 6, 6, 6, 6, 6, 6, 6, 6, 6, 6, 6, 6, 6, 6, 6, 6, 6, 6, 6, 6, 6, 7, 7, 7, 7, 7, 7, 7, 7, 7, 7, 7, 7, 7, 7, 7, 7, 7, 7, 7, 7, 7, 7, 7, 7, 7, 7, 7, 7, 7, 7, 7, 7, 7, 7, 7, 7, 7, 7, 7, 7, 7, 7, 7, 7, 7, 7, 7, 7, 7, 7, 7, 7, 7, 7, 7, 7, 7, 7, 7, 7, 7, 7, 7, 7, 8, 8, 8, 8, 8, 8, 8, 8, 8, 8, 8, 8, 8, 8, 8, 8, 8, 8, 8, 8, 8, 8, 8, 8, 8, 8, 8, 8, 8, 8, 8, 8, 8, 8, 8, 8, 8, 8, 8, 8, 8, 8, 8, 8, 8, 8, 8, 8, 8, 8, 8, 8, 8, 8, 8, 8, 8, 8, 8, 8, 8, 8, 8, 8, 8, 8, 8, 8, 8, 8, 8, 8, 8, 8, 8, 8, 8, 8, 8, 8, 8, 8, 8, 8, 8, 8, 8, 8, 8, 8, 8, 8, 8, 8, 8, 8, 8, 8, 8, 8, 8, 8, 8, 8, 8, 8, 8, 8, 8, 8, 8, 8, 8, 8, 8, 8, 8, 8, 8, 8, 8, 8, 8, 8, 8, 8, 8, 8] : List UInt8)[m]? = some (UInt8.ofNat (blen m)) := by decide +kernel
theorem blen_small {m : Nat} (h : m < 256) : (UInt8.ofNat (blen m)).toNat = blen m := by
  have := (blen_le m 8).2 h
  simp; omega
theorem shr_nat (k k' : IntKind) (a n : Nat) (hn : n ≤ k.bits) : binD .shr (.i k ((a : Nat) : Int)) (.i k' ((n : Nat) : Int)) = some (.i k ((a / 2 ^ n : Nat) : Int)) := by
  simp only [binD]
  rw [if_neg (by omega), Int.toNat_natCast, Nat.min_eq_left hn]
  have := fdiv_nat a (2 ^ n)
  rw [show ((2 ^ n : Nat) : Int) = (2 : Int) ^ n by simp] at this
  rw [this]
theorem shr64_32 (a : Nat) (k' : IntKind) : binD .shr (.i .u64 ((a : Nat) : Int)) (.i k' 32) = some (.i .u64 ((a / 4294967296 : Nat) : Int)) := shr_nat .u64 k' a 32 (by decide)
theorem shr64_16 (a : Nat) (k' : IntKind) : binD .shr (.i .u64 ((a : Nat) : Int)) (.i k' 16) = some (.i .u64 ((a / 65536 : Nat) : Int)) := shr_nat .u64 k' a 16 (by decide)
theorem shr64_8 (a : Nat) (k' : IntKind) : binD .shr (.i .u64 ((a : Nat) : Int)) (.i k' 8) = some (.i .u64 ((a / 256 : Nat) : Int)) := shr_nat .u64 k' a 8 (by decide)
theorem or128 : ∀ a, a < 256 → (BitVec.ofNat 8 a ||| 128#8).toNat = 128 + a % 128 := by decide +kernel
theorem and127 : ∀ a, a < 256 → (BitVec.ofNat 8 a &&& 127#8).toNat = a % 128 := by decide +kernel
theorem or8 (a : Nat) : binD .or (.i .u8 ((a % 256 : Nat) : Int)) (.i .u8 128) = some (.i .u8 ((128 + a % 128 : Nat) : Int)) := by
  simp only [binD, ne_eq, not_true_eq_false, if_false]
  have h1 : BitVec.ofInt 8 ((a % 256 : Nat) : Int) = BitVec.ofNat 8 (a % 256) := by
    apply BitVec.eq_of_toNat_eq; simp; omega
  rw [show IntKind.u8.bits = 8 from rfl, h1, show BitVec.ofInt 8 128 = 128#8 from rfl, or128 _ (by omega), wrap8_nat]
  congr 3; omega
theorem and8 (a : Nat) (h : a < 256) : binD .and (.i .u8 ((a : Nat) : Int)) (.i .u8 127) = some (.i .u8 ((a % 128 : Nat) : Int)) := by
  simp only [binD, ne_eq, not_true_eq_false, if_false]
  have h1 : BitVec.ofInt 8 ((a : Nat) : Int) = BitVec.ofNat 8 a := by
    apply BitVec.eq_of_toNat_eq; simp
  rw [show IntKind.u8.bits = 8 from rfl, h1, show BitVec.ofInt 8 127 = 127#8 from rfl, and127 _ h, wrap8_nat]
  congr 3; omega
theorem or64 (a b n : Nat) (ha : a < 2 ^ n) (hb : b * 2 ^ n + a < 9223372036854775808) : binD .or (.i .i64 ((a : Nat) : Int)) (.i .i64 ((b * 2 ^ n : Nat) : Int)) = some (.i .i64 ((a + b * 2 ^ n : Nat) : Int)) := by
  simp only [binD, ne_eq, not_true_eq_false, if_false]
  have h1 : ∀ x : Nat, x < 9223372036854775808 → BitVec.ofInt 64 ((x : Nat) : Int) = BitVec.ofNat 64 x := by
    intro x hx; apply BitVec.eq_of_toNat_eq; simp
  rw [show IntKind.i64.bits = 64 from rfl, h1 _ (by omega), h1 _ (by omega)]
  have h2 : (BitVec.ofNat 64 a ||| BitVec.ofNat 64 (b * 2 ^ n)).toNat = a + b * 2 ^ n := by
    rw [BitVec.toNat_or, BitVec.toNat_ofNat, BitVec.toNat_ofNat, Nat.mod_eq_of_lt (by omega), Nat.mod_eq_of_lt (by omega), Nat.or_comm, ← Nat.shiftLeft_eq, ← Nat.shiftLeft_add_eq_or_of_lt ha, Nat.add_comm]
  rw [h2, wrap_i (by omega)]
end Go.Vi

namespace Go.Vi
set_option linter.unusedSimpArgs false
set_option linter.unusedVariables false

/-! ### a number's bytes, as they are laid -/
def putD (n k i : Nat) : Nat := if i < k then 128 + n / 128 ^ i % 128 else 0
def putR (n m k : Nat) : List (List D) := (List.range m).map fun i => [D.i .u8 ((putD n k i : Nat) : Int)]
theorem putR_len (n m k : Nat) : (putR n m k).length = m := by simp [putR]
theorem putR_zero (n m : Nat) : putR n m 0 = List.replicate m [D.i .u8 0] := by
  apply List.ext_getElem?
  intro i
  simp only [putR, List.getElem?_map, List.getElem?_replicate]
  by_cases h : i < m
  · rw [List.getElem?_range h]; simp [putD, h]
  · rw [List.getElem?_eq_none (by simpa using h), if_neg h]; rfl
theorem putR_get (n m k i : Nat) (h : i < m) : (putR n m k)[i]? = some [D.i .u8 ((putD n k i : Nat) : Int)] := by
  simp only [putR, List.getElem?_map, List.getElem?_range h, Option.map_some]
theorem putR_set (n m k : Nat) (h : k < m) : (putR n m k).set k [D.i .u8 ((128 + n / 128 ^ k % 128 : Nat) : Int)] = putR n m (k + 1) := by
  apply List.ext_getElem?
  intro i
  rw [List.getElem?_set, putR_len]
  by_cases hi : k = i
  · subst hi
    rw [if_pos rfl, if_pos h, putR_get _ _ _ _ h]
    simp [putD]
  · rw [if_neg hi]
    rcases Nat.lt_or_ge i m with him | him
    · rw [putR_get _ _ _ _ him, putR_get _ _ _ _ him]
      have e : (i < k) = (i < k + 1) := by rw [eq_iff_iff]; omega
      simp only [putD, e]
    · rw [List.getElem?_eq_none (by rw [putR_len]; exact him), List.getElem?_eq_none (by rw [putR_len]; exact him)]
theorem putR_last (n k : Nat) (h : nd n = k + 1) : (putR n (k + 1) (k + 1)).set k [D.i .u8 ((n / 128 ^ k : Nat) : Int)] = rowsOfBytes (enc128 n) := by
  have hlt : n / 128 ^ k < 128 := by
    have := ((nd_range k n).1 h).1
    rw [Nat.div_lt_iff_lt_mul (Nat.pow_pos (by decide))]
    rwa [Nat.pow_succ, Nat.mul_comm] at this
  rw [enc_digits k n h]
  simp only [rowsOfBytes, List.map_append, List.map_map, List.map_cons, List.map_nil]
  apply List.ext_getElem?
  intro i
  rw [List.getElem?_set, putR_len, List.getElem?_append]
  simp only [List.length_map, List.length_range]
  by_cases hi : k = i
  · subst hi
    rw [if_pos rfl, if_pos (by omega), if_neg (by omega), Nat.sub_self, List.getElem?_cons_zero, ofNat_toNat_lt (by omega)]
  · rw [if_neg hi]
    rcases Nat.lt_or_ge i k with hik | hik
    · rw [if_pos hik, putR_get _ _ _ _ (by omega)]
      simp only [List.getElem?_map, List.getElem?_range hik, Option.map_some, Function.comp, putD, if_pos (by omega : i < k + 1)]
      congr 3
      have : n / 128 ^ i % 128 < 128 := Nat.mod_lt _ (by decide)
      rw [ofNat_toNat_lt (by omega)]
    · rw [if_neg (by omega), List.getElem?_eq_none (by rw [putR_len]; omega), List.getElem?_eq_none (by simp; omega)]
end Go.Vi

namespace Go.Vi
set_option linter.unusedSimpArgs false
set_option linter.unusedVariables false
def bigs (p : List UInt8) : Prop := ∀ c ∈ p, 128 ≤ c.toNat
theorem longB_snoc : ∀ (p : List UInt8) (c : UInt8), bigs p → c.toNat < 128 → longB (p ++ [c]) = true
  | [], c, _, h => by simp [longB, h]
  | [d], c, hp, h => by
    have := hp d (List.mem_cons_self ..)
    simp [longB, h, this]
  | d :: e :: r, c, hp, h => by
    have h1 := hp d (List.mem_cons_self ..)
    have ih := longB_snoc (e :: r) c (fun x hx => hp x (List.mem_cons_of_mem _ hx)) h
    simp only [List.cons_append] at ih ⊢
    simp only [longB, h1, decide_true, Bool.true_and]
    exact ih
theorem val_snoc : ∀ (p : List UInt8) (c : UInt8), val (p ++ [c]) = val p + c.toNat % 128 * 128 ^ p.length
  | [], c => by simp [val]
  | d :: r, c => by
    simp only [List.cons_append, val, val_snoc r c, List.length_cons, Nat.pow_succ]
    rw [Nat.mul_add, Nat.mul_comm (128 ^ r.length) 128, Nat.add_assoc]
    congr 2
    rw [← Nat.mul_assoc, ← Nat.mul_assoc, Nat.mul_comm 128]
theorem val_lt : ∀ (p : List UInt8), val p < 128 ^ p.length
  | [] => by simp [val]
  | d :: r => by
    have ih := val_lt r
    simp only [val, List.length_cons, Nat.pow_succ]
    have : d.toNat % 128 < 128 := Nat.mod_lt _ (by decide)
    omega
theorem enc_snoc (p : List UInt8) (c : UInt8) (hp : bigs p) (hc : c.toNat < 128) : enc128 (val p + c.toNat * 128 ^ p.length) = p ++ [c] ↔ ¬ (c.toNat = 0 ∧ 0 < p.length) := by
  have h := enc_val_iff (p ++ [c]) (longB_snoc p c hp hc)
  rw [val_snoc, Nat.mod_eq_of_lt hc] at h
  rw [h]
  simp
theorem sls_snoc (s : List UInt8) (a i : Nat) (h : a + i < s.length) : (s.take (a + i + 1)).drop a = (s.take (a + i)).drop a ++ [s[a + i]] := by
  rw [take_succ_get s (a + i) h, List.drop_append_of_le_length (by simp; omega)]
theorem sls_len (s : List UInt8) (a i : Nat) (h : a + i ≤ s.length) : ((s.take (a + i)).drop a).length = i := by simp; omega
end Go.Vi

namespace Go.Vi
set_option linter.unusedSimpArgs false
set_option linter.unusedVariables false

theorem rdF_nil' (i n : Nat) : rdF [] i n = none := rfl
/-- what is read is a number's own bytes -/
theorem rdF_enc : ∀ (l p : List UInt8) (n k : Nat), bigs p → p.length ≤ 9 → rdF l p.length (val p) = some (n, k) → p.length < k ∧ k ≤ p.length + l.length ∧ k ≤ 9 ∧ p ++ l.take (k - p.length) = enc128 n
  | [], p, n, k, _, _, h => by cases h
  | c :: l, p, n, k, hp, h9, h => by
    simp only [rdF] at h
    split at h
    · cases h
    · split at h
      · rename_i hn9 hc
        have hb : bigs (p ++ [c]) := by
          intro x hx
          rcases List.mem_append.1 hx with hx | hx
          · exact hp x hx
          · simp at hx; subst hx; exact hc
        have hv : val (p ++ [c]) = val p + c.toNat % 128 * 128 ^ p.length := val_snoc p c
        have hl : (p ++ [c]).length = p.length + 1 := by simp
        have ih := rdF_enc l (p ++ [c]) n k hb (by omega) (by rw [hl, hv]; exact h)
        rw [hl] at ih
        obtain ⟨i1, i2, i3, i4⟩ := ih
        refine ⟨by omega, by simp only [List.length_cons]; omega, i3, ?_⟩
        rw [← i4, List.append_assoc]
        congr 1
        rw [show k - p.length = (k - (p.length + 1)) + 1 by omega, List.take_succ_cons]
        rfl
      · rename_i hn9 hc
        split at h
        · cases h
        · rename_i h0
          simp only [Option.some.injEq, Prod.mk.injEq] at h
          obtain ⟨h1, h2⟩ := h
          have := (enc_snoc p c hp (by omega)).2 h0
          refine ⟨by omega, by simp only [List.length_cons]; omega, by omega, ?_⟩
          rw [← h2, ← h1, this, Nat.add_sub_cancel_left]
          simp
theorem rdF_enc0 {l : List UInt8} {n k : Nat} (h : rdF l 0 0 = some (n, k)) : 0 < k ∧ k ≤ l.length ∧ k ≤ 9 ∧ l.take k = enc128 n := by
  have := rdF_enc l [] n k (fun c hc => by cases hc) (by decide) h
  simpa using this
/-- what a number's own bytes are read as -/
theorem rdF_of : ∀ (r : List UInt8) (m i acc : Nat), i + nd m ≤ 9 → rdF (enc128 m ++ r) i acc = if m = 0 ∧ 0 < i then none else some (acc + m * 128 ^ i, i + nd m)
  | r, m, i, acc, h => by
    by_cases hm : m < 128
    · rw [enc_small hm, nd_small hm] at *
      have h1 : (UInt8.ofNat m).toNat = m := ofNat_toNat_lt (by omega)
      simp only [List.cons_append, List.nil_append, rdF, h1]
      rw [if_neg (by omega), if_neg (by omega)]
    · have hq : m / 128 < m := by omega
      rw [nd_big hm] at h
      have ih := rdF_of r (m / 128) (i + 1) (acc + m % 128 * 128 ^ i) (by omega)
      have h1 : (UInt8.ofNat (128 + m % 128)).toNat = 128 + m % 128 := ofNat_toNat_lt (by omega)
      rw [enc_big hm]
      simp only [List.cons_append, rdF, h1]
      have hp := nd_pos (m / 128)
      rw [if_neg (by omega), if_pos (by omega)]
      have e : (128 + m % 128) % 128 = m % 128 := by omega
      rw [e, ih, if_neg (by omega), if_neg (by omega), nd_big hm]
      have e2 : acc + m % 128 * 128 ^ i + m / 128 * 128 ^ (i + 1) = acc + m * 128 ^ i := by
        rw [Nat.pow_succ, Nat.mul_comm (128 ^ i) 128, ← Nat.mul_assoc, Nat.add_assoc, ← Nat.add_mul]
        congr 2; omega
      rw [e2]
      congr 2; omega
termination_by r m => m
theorem rdF_of0 (m : Nat) (r : List UInt8) (h : m < 9223372036854775808) : rdF (enc128 m ++ r) 0 0 = some (m, nd m) := by
  rw [rdF_of r m 0 0 (by have := nd_le9 h; omega), if_neg (by omega)]; simp

/-! ### frames -/
def fitsN (n : Nat) : Bool := decide (1 ≤ n) && decide (n ≤ 65536)
def frameF (b : List UInt8) : List UInt8 := enc128 b.length ++ four (crcOn 0#32 (enc128 b.length ++ b)) ++ b
def openF (l : List UInt8) : Bool := decide (l.length ≤ 8) && l.all fun c => decide (128 ≤ c.toNat)
def sizeF (n : Int) : Int := if 1 ≤ n ∧ n ≤ 65536 then nd n.toNat + 4 + n else 0
def nextF (s : List UInt8) (a : Nat) : List UInt8 × Nat × Int :=
  if s.length ≤ a ∨ openF (s.drop a) = true then ([], 0, 2)
  else match rdF (s.drop a) 0 0 with
    | none => ([], 0, 3)
    | some (n, k) => if fitsN n = false then ([], 0, 3)
      else if s.length < a + k + 4 + n then ([], 0, 2)
      else if four (crcOn 0#32 (enc128 n ++ (s.take (a + k + 4 + n)).drop (a + k + 4))) = (s.take (a + k + 4)).drop (a + k) then ((s.take (a + k + 4 + n)).drop (a + k + 4), a + k + 4 + n, 0)
      else ([], 0, 4)
def nextI (s : List UInt8) (a : Int) : List UInt8 × Nat × Int := if a < 0 then ([], 0, 2) else nextF s a.toNat
theorem take_drop_enc {s : List UInt8} {a n k : Nat} (h : rdF (s.drop a) 0 0 = some (n, k)) : (s.take (a + k)).drop a = enc128 n ∧ a + k ≤ s.length ∧ 0 < k ∧ k ≤ 9 := by
  obtain ⟨h1, h2, h3, h4⟩ := rdF_enc0 h
  have hl : (s.drop a).length = s.length - a := by simp
  rw [List.drop_take]
  rw [show a + k - a = k by omega]
  exact ⟨h4, by omega, h1, h3⟩
theorem four_len (x : W32) : (four x).length = 4 := rfl
end Go.Vi

namespace Go.Vi
set_option linter.unusedSimpArgs false
set_option linter.unusedVariables false

theorem frameF_len (b : List UInt8) : (frameF b).length = nd b.length + 4 + b.length := by
  simp only [frameF, List.length_append, four_len]; rfl
theorem openF_of {m : Nat} (r : List UInt8) (h : m < 9223372036854775808) : openF (enc128 m ++ r) = false := by
  have hs : ∃ c ∈ enc128 m, c.toNat < 128 := by
    have hp := nd_pos m
    obtain ⟨k, hk⟩ : ∃ k, nd m = k + 1 := ⟨nd m - 1, by omega⟩
    have hr := ((nd_range k m).1 hk).1
    rw [enc_digits k m hk]
    have hlt : m / 128 ^ k < 128 := by
      rw [Nat.div_lt_iff_lt_mul (Nat.pow_pos (by decide))]
      rwa [Nat.pow_succ, Nat.mul_comm] at hr
    exact ⟨_, List.mem_append_right _ (List.mem_singleton.2 rfl), by rw [ofNat_toNat_lt (by omega)]; exact hlt⟩
  obtain ⟨c, hc, h1⟩ := hs
  have : (enc128 m ++ r).all (fun c => decide (128 ≤ c.toNat)) = false := by
    rw [List.all_eq_false]
    exact ⟨c, List.mem_append_left _ hc, by simp; omega⟩
  simp [openF, this]
theorem enc_init_big {m i : Nat} (h : i + 1 < nd m) : ∀ c, (enc128 m)[i]? = some c → 128 ≤ c.toNat := by
  intro c hc
  obtain ⟨k, hk⟩ : ∃ k, nd m = k + 1 := ⟨nd m - 1, by omega⟩
  rw [enc_digits k m hk, List.getElem?_append_left (by simp; omega), List.getElem?_map, List.getElem?_range (by omega)] at hc
  simp only [Option.map_some, Option.some.injEq] at hc
  rw [← hc, ofNat_toNat_lt (by have := Nat.mod_lt (m / 128 ^ i) (by decide : 0 < 128); omega)]
  omega
theorem drop_at {α : Type} (p r : List α) : (p ++ r).drop p.length = r := by simp
theorem take_at {α : Type} (p q r : List α) (n : Nat) (h : n = p.length + q.length) : ((p ++ (q ++ r)).take n).drop p.length = q := by
  subst h; simp [List.take_append]
/-- the frame that stands at a place -/
theorem nextF_frame (p b r : List UInt8) (h1 : 1 ≤ b.length) (h2 : b.length ≤ 65536) : nextF (p ++ (frameF b ++ r)) p.length = (b, p.length + (frameF b).length, 0) := by
  have hd : (p ++ (frameF b ++ r)).drop p.length = enc128 b.length ++ (four (crcOn 0#32 (enc128 b.length ++ b)) ++ b ++ r) := by
    rw [drop_at]; simp only [frameF, List.append_assoc]
  have hl := frameF_len b
  have hn := nd_pos b.length
  unfold nextF
  rw [hd, if_neg, rdF_of0 _ _ (by omega)]
  · dsimp only
    have hf : fitsN b.length = true := by simp [fitsN, h1, h2]
    rw [if_neg (by rw [hf]; decide), if_neg (by simp; omega)]
    have hs : p ++ (frameF b ++ r) = (p ++ enc128 b.length) ++ (four (crcOn 0#32 (enc128 b.length ++ b)) ++ (b ++ r)) := by simp only [frameF, List.append_assoc]
    have hs2 : p ++ (frameF b ++ r) = (p ++ enc128 b.length ++ four (crcOn 0#32 (enc128 b.length ++ b))) ++ (b ++ r) := by simp only [frameF, List.append_assoc]
    have l1 : (p ++ enc128 b.length).length = p.length + nd b.length := by simp [nd]
    have l2 : (p ++ enc128 b.length ++ four (crcOn 0#32 (enc128 b.length ++ b))).length = p.length + nd b.length + 4 := by rw [List.length_append, l1, four_len]
    have t1 : ((p ++ (frameF b ++ r)).take (p.length + nd b.length + 4 + b.length)).drop (p.length + nd b.length + 4) = b := by
      rw [hs2, ← l2]; exact take_at _ b r _ rfl
    have t2 : ((p ++ (frameF b ++ r)).take (p.length + nd b.length + 4)).drop (p.length + nd b.length) = four (crcOn 0#32 (enc128 b.length ++ b)) := by
      rw [hs, ← l1]; exact take_at _ _ _ _ (by rw [four_len])
    rw [t1, t2, if_pos rfl, hl]
    congr 2; omega
  · rw [openF_of _ (by omega)]
    simp only [List.length_append, hl]
    simp; omega
/-- a frame that is cut off -/
theorem nextF_cut (p b : List UInt8) (m : Nat) (h1 : 1 ≤ b.length) (h2 : b.length ≤ 65536) (hm : 0 < m) (hm2 : m < (frameF b).length) : nextF (p ++ (frameF b).take m) p.length = ([], 0, 2) := by
  have hl := frameF_len b
  have hlm : ((frameF b).take m).length = m := by simp; omega
  unfold nextF
  rw [drop_at]
  have h9 := nd_le9 (n := b.length) (by omega)
  rcases Nat.lt_or_ge m (nd b.length) with hk | hk
  · have ho : openF ((frameF b).take m) = true := by
      unfold openF
      rw [hlm, decide_eq_true (by omega), Bool.true_and, List.all_eq_true]
      intro c hc
      obtain ⟨i, hi, rfl⟩ := List.getElem_of_mem hc
      rw [hlm] at hi
      rw [decide_eq_true_eq]
      refine enc_init_big (m := b.length) (i := i) (by omega) _ ?_
      have e : (frameF b)[i]? = (enc128 b.length)[i]? := by
        unfold frameF
        rw [List.append_assoc, List.getElem?_append_left (by show i < nd b.length; omega)]
      rw [← e, List.getElem_take]
      simp
    rw [if_pos (.inr ho)]
  · have hsp : (frameF b).take m = enc128 b.length ++ (four (crcOn 0#32 (enc128 b.length ++ b)) ++ b).take (m - nd b.length) := by
      unfold frameF
      rw [List.append_assoc, List.take_append, List.take_of_length_le (by show nd b.length ≤ m; exact hk)]
      rfl
    rw [hsp, if_neg, rdF_of0 _ _ (by omega)]
    · dsimp only
      have hf : fitsN b.length = true := by simp [fitsN, h1, h2]
      rw [if_neg (by rw [hf]; decide), if_pos]
      rw [List.length_append, ← hsp, hlm]; omega
    · rw [openF_of _ (by omega), List.length_append, ← hsp, hlm]
      simp; omega
theorem nextF_ok {s t : List UInt8} {a n : Nat} (h : nextF s a = (t, n, 0)) : a < n ∧ n ≤ s.length := by
  unfold nextF at h
  split at h
  · simp at h
  · split at h
    · simp at h
    · rename_i m k hr
      obtain ⟨_, q2, q3, _⟩ := take_drop_enc hr
      split at h
      · simp at h
      · split at h
        · simp at h
        · split at h
          · simp only [Prod.mk.injEq] at h; omega
          · simp at h

/-! ### frames in a row -/
def allF : Nat → List UInt8 → Nat → List (List UInt8) × Nat × Int
  | 0, _, a => ([], a, 0)
  | f + 1, s, a => if s.length ≤ a then ([], a, 0) else
    match nextF s a with
    | (t, n, e) => if e = 0 then (t :: (allF f s n).1, (allF f s n).2) else ([], a, e)
def rowF (l : List (List UInt8)) : List UInt8 := l.flatMap frameF
def fitsB (b : List UInt8) : Prop := 1 ≤ b.length ∧ b.length ≤ 65536
theorem allF_step {s t : List UInt8} {a n f : Nat} (ha : a < s.length) (h : nextF s a = (t, n, 0)) : allF (f + 1) s a = (t :: (allF f s n).1, (allF f s n).2) := by
  simp only [allF]; rw [if_neg (by omega), h]; rfl
theorem allF_stop {s t : List UInt8} {a n f : Nat} {e : Int} (ha : a < s.length) (h : nextF s a = (t, n, e)) (he : e ≠ 0) : allF (f + 1) s a = ([], a, e) := by
  simp only [allF]; rw [if_neg (by omega), h]; simp only []; rw [if_neg he]
theorem allF_end {s : List UInt8} {a f : Nat} (ha : s.length ≤ a) : allF f s a = ([], a, 0) := by
  cases f with
  | zero => rfl
  | succ f => simp only [allF]; rw [if_pos ha]
theorem frame_pos (b : List UInt8) : 0 < (frameF b).length := by rw [frameF_len]; have := nd_pos b.length; omega
theorem allF_row : ∀ (l : List (List UInt8)) (p q : List UInt8) (f : Nat), (∀ b ∈ l, fitsB b) → l.length < f → allF f (p ++ (rowF l ++ q)) p.length = (l ++ (allF (f - l.length) (p ++ (rowF l ++ q)) (p.length + (rowF l).length)).1, (allF (f - l.length) (p ++ (rowF l ++ q)) (p.length + (rowF l).length)).2)
  | [], p, q, f, _, _ => by simp [rowF]
  | b :: l, p, q, f, h, hf => by
    obtain ⟨g, rfl⟩ : ∃ g, f = g + 1 := ⟨f - 1, by omega⟩
    have hb := h b (List.mem_cons_self ..)
    have e1 : rowF (b :: l) = frameF b ++ rowF l := rfl
    have hp := frame_pos b
    have hnx : nextF (p ++ (rowF (b :: l) ++ q)) p.length = (b, p.length + (frameF b).length, 0) := by
      rw [e1, List.append_assoc]; exact nextF_frame p b _ hb.1 hb.2
    rw [allF_step (by rw [e1]; simp; omega) hnx]
    have ih := allF_row l (p ++ frameF b) q g (fun x hx => h x (List.mem_cons_of_mem _ hx)) (by simpa using hf)
    have e2 : (p ++ frameF b) ++ (rowF l ++ q) = p ++ (rowF (b :: l) ++ q) := by rw [e1]; simp only [List.append_assoc]
    rw [e2] at ih
    have e3 : (p ++ frameF b).length = p.length + (frameF b).length := List.length_append
    have e4 : p.length + (frameF b).length + (rowF l).length = p.length + (rowF (b :: l)).length := by rw [e1, List.length_append]; omega
    rw [e3, e4] at ih
    rw [ih]
    simp only [List.length_cons, Nat.add_sub_add_right, List.cons_append]
end Go.Vi

namespace Go.Vi
set_option linter.unusedSimpArgs false
set_option linter.unusedVariables false

theorem four_nat (x : W32) : x.toNat = (four x)[0]!.toNat + 256 * (four x)[1]!.toNat + 65536 * (four x)[2]!.toNat + 16777216 * (four x)[3]!.toNat := by
  have hx := x.isLt
  have e0 : (four x)[0]!.toNat = x.toNat % 256 := by simp [four]
  have e1 : (four x)[1]!.toNat = x.toNat / 256 % 256 := by
    show (UInt8.ofNat (x >>> 8).toNat).toNat = _
    rw [BitVec.toNat_ushiftRight, Nat.shiftRight_eq_div_pow]; simp
  have e2 : (four x)[2]!.toNat = x.toNat / 65536 % 256 := by
    show (UInt8.ofNat (x >>> 16).toNat).toNat = _
    rw [BitVec.toNat_ushiftRight, Nat.shiftRight_eq_div_pow]; simp
  have e3 : (four x)[3]!.toNat = x.toNat / 16777216 % 256 := by
    show (UInt8.ofNat (x >>> 24).toNat).toNat = _
    rw [BitVec.toNat_ushiftRight, Nat.shiftRight_eq_div_pow]; simp
  rw [e0, e1, e2, e3]
  omega
theorem four_inj {x y : W32} (h : four x = four y) : x = y := by
  apply BitVec.eq_of_toNat_eq
  rw [four_nat x, four_nat y, h]
theorem crcOn_byte (z : W32) (p r : List UInt8) {c d : UInt8} (h : crcOn z (p ++ c :: r) = crcOn z (p ++ d :: r)) : c = d := by
  simp only [crcOn, List.foldl_append, List.foldl_cons] at h
  have h1 : ∀ u v : W32, ~~~u = ~~~v → u = v := fun u v e => by rw [← BitVec.not_not (b := u), e, BitVec.not_not]
  exact crcB_byte (fold_inj r (h1 _ _ h))
theorem set_split {α : Type} (l : List α) (j : Nat) (x : α) (h : j < l.length) : l.set j x = l.take j ++ x :: l.drop (j + 1) := by
  rw [List.set_eq_take_append_cons_drop, if_pos h]
theorem self_split {α : Type} (l : List α) (j : Nat) (h : j < l.length) : l = l.take j ++ l[j] :: l.drop (j + 1) := by
  rw [← List.drop_eq_getElem_cons h, List.take_append_drop]
theorem nextF_turned (b : List UInt8) (k : Nat) (x : UInt8) (h1 : 1 ≤ b.length) (h2 : b.length ≤ 65536) (hk : nd b.length ≤ k) (hk2 : k < (frameF b).length) (hx : x ≠ (frameF b)[k]'hk2) :
    nextF ((frameF b).set k x) 0 = ([], 0, 4) := by
  have hl := frameF_len b
  have hel : (enc128 b.length).length = nd b.length := rfl
  -- what the two parts become
  obtain ⟨F', B', hF, hB, hs, hne⟩ : ∃ F' B' : List UInt8, F'.length = 4 ∧ B'.length = b.length ∧ (frameF b).set k x = enc128 b.length ++ (F' ++ B') ∧ four (crcOn 0#32 (enc128 b.length ++ B')) ≠ F' := by
    obtain ⟨X, hX⟩ : ∃ X, X = four (crcOn 0#32 (enc128 b.length ++ b)) := ⟨_, rfl⟩
    have hXl : X.length = 4 := by rw [hX, four_len]
    have hfr : frameF b = enc128 b.length ++ (X ++ b) := by rw [hX]; simp only [frameF, List.append_assoc]
    have hset : (frameF b).set k x = enc128 b.length ++ (X ++ b).set (k - nd b.length) x := by
      rw [hfr, List.set_append_right _ _ (by rw [hel]; exact hk)]; rfl
    have hget : (X ++ b)[k - nd b.length]? = some ((frameF b)[k]'hk2) := by
      have : (frameF b)[k]? = some ((frameF b)[k]'hk2) := by simp [hk2]
      rw [← this]
      have e : (enc128 b.length ++ (X ++ b))[k]? = (X ++ b)[k - nd b.length]? := by rw [List.getElem?_append_right (by rw [hel]; exact hk)]; rfl
      rw [← e, ← hfr]
    generalize (frameF b)[k]'hk2 = y at hx hget
    rcases Nat.lt_or_ge (k - nd b.length) 4 with h | h
    · refine ⟨X.set (k - nd b.length) x, b, by simp [hXl], rfl, ?_, ?_⟩
      · rw [hset, List.set_append_left _ _ (by omega)]
      · rw [← hX]
        intro he
        rw [List.getElem?_append_left (by omega)] at hget
        have := congrArg (fun l : List UInt8 => l[k - nd b.length]?) he
        rw [List.getElem?_set_self (by omega)] at this
        simp only [hget] at this
        exact hx (Option.some.inj this).symm
    · refine ⟨X, b.set (k - nd b.length - 4) x, hXl, by simp, ?_, ?_⟩
      · rw [hset, List.set_append_right _ _ (by omega), hXl]
      · rw [hX]
        intro he
        have hj : k - nd b.length - 4 < b.length := by omega
        rw [List.getElem?_append_right (by omega), hXl] at hget
        have hc := four_inj he
        have hb' : b[k - nd b.length - 4]'hj = y := by
          rw [List.getElem?_eq_getElem hj] at hget; exact Option.some.inj hget
        rw [set_split b _ x hj] at hc
        have hc2 : crcOn 0#32 ((enc128 b.length ++ b.take (k - nd b.length - 4)) ++ x :: b.drop (k - nd b.length - 4 + 1)) = crcOn 0#32 ((enc128 b.length ++ b.take (k - nd b.length - 4)) ++ b[k - nd b.length - 4] :: b.drop (k - nd b.length - 4 + 1)) := by
          rw [List.append_assoc, List.append_assoc, ← self_split b _ hj]; exact hc
        have := crcOn_byte _ _ _ hc2
        exact hx (this.trans hb')
  rw [hs]
  unfold nextF
  rw [List.drop_zero, openF_of _ (by omega), rdF_of0 _ _ (by omega), if_neg]
  · dsimp only
    have hf : fitsN b.length = true := by simp [fitsN, h1, h2]
    have ht : (enc128 b.length ++ (F' ++ B')).length = nd b.length + 4 + b.length := by simp [hel, hF, hB]; omega
    rw [if_neg (by rw [hf]; decide), if_neg (by rw [ht]; omega)]
    have l2 : (enc128 b.length ++ F').length = 0 + nd b.length + 4 := by simp [hel, hF]
    have t1 : ((enc128 b.length ++ (F' ++ B')).take (0 + nd b.length + 4 + b.length)).drop (0 + nd b.length + 4) = B' := by
      have : enc128 b.length ++ (F' ++ B') = (enc128 b.length ++ F') ++ (B' ++ []) := by simp
      rw [this, ← l2]; exact take_at _ B' [] _ (by rw [hB])
    have t2 : ((enc128 b.length ++ (F' ++ B')).take (0 + nd b.length + 4)).drop (0 + nd b.length) = F' := by
      have l1 : (enc128 b.length).length = 0 + nd b.length := by rw [hel]; omega
      rw [← l1]; exact take_at _ F' B' _ (by rw [hF])
    rw [t1, t2, if_neg hne]
  · simp [hel, hF, hB]
theorem xor8 (c d : UInt8) : binD .xor (.i .u8 ((c.toNat : Nat) : Int)) (.i .u8 ((d.toNat : Nat) : Int)) = some (.i .u8 (((c ^^^ d).toNat : Nat) : Int)) := by
  simp only [binD, ne_eq, not_true_eq_false, if_false]
  have h1 : ∀ x : UInt8, BitVec.ofInt 8 ((x.toNat : Nat) : Int) = x.toBitVec := by
    intro x; apply BitVec.eq_of_toNat_eq; simp
  rw [show IntKind.u8.bits = 8 from rfl, h1, h1]
  have h2 : (c.toBitVec ^^^ d.toBitVec).toNat = (c ^^^ d).toNat := rfl
  rw [h2, wrap_u8 (by have := (c ^^^ d).toNat_lt; omega)]
theorem xor8_ne {c d : UInt8} (h : d ≠ 0) : c ^^^ d ≠ c := by
  intro e
  apply h
  have : c ^^^ (c ^^^ d) = c ^^^ c := by rw [e]
  simpa [← UInt8.xor_assoc] using this
theorem rowsOfBytes_get (l : List UInt8) (k : Nat) (h : k < l.length) : (rowsOfBytes l)[k]? = some [.i .u8 (((l[k]'h).toNat : Nat) : Int)] := by simp [rowsOfBytes, h]
theorem rowsOfBytes_set (l : List UInt8) (k : Nat) (x : UInt8) : (rowsOfBytes l).set k [.i .u8 ((x.toNat : Nat) : Int)] = rowsOfBytes (l.set k x) := by
  simp [rowsOfBytes, List.map_set]
theorem rowsOfBytes_take (l : List UInt8) : (rowsOfBytes l).take l.length = rowsOfBytes l := List.take_of_length_le (by simp [rowsOfBytes])
end Go.Vi

namespace Go.Vi
set_option linter.unusedSimpArgs false
set_option linter.unusedVariables false
set_option linter.defProp false

/-! ### walking regions of open order -/
theorem L.pure_of {x : L} (h : x.refs = []) : x.pure = true := by
  cases x <;> first | rfl | (simp [L.refs] at h; done) | (simp only [L.refs] at h; subst h; rfl)
theorem Ls.pure_of {xs : List L} (h : xs.flatMap L.refs = []) : xs.all L.pure = true := by
  rw [List.all_eq_true]
  intro x hx
  refine L.pure_of ?_
  rw [List.flatMap_eq_nil_iff] at h
  exact h x hx
theorem V.pure_of {v : V} (h : v.refs = []) : v.pure = true := by
  cases v with
  | one x => exact L.pure_of h
  | agg xs => exact Ls.pure_of h
  | any => rfl
  | tup xs =>
    simp only [V.pure, List.all_eq_true]
    intro c hc
    have := (List.flatMap_eq_nil_iff.1 h) c hc
    exact fun x hx => (List.all_eq_true.1 (Ls.pure_of this)) x hx

theorem slotRefs_nil (fr : Fr) : slotRefs fr [] = [] := Eq.trans rfl rfl
theorem slotRefs_cons {N n : Nat} {f : Fn} (l : List Nat) (h : n < N) : slotRefs (frameOf N f) (n :: l) = (f n).refs ++ slotRefs (frameOf N f) l := by
  simp only [slotRefs, List.flatMap_cons, frame_get h]
theorem xk_t {N n : Nat} {f : Fn} (h : n < N) : xk (frameOf N f) (.t n) = bif (f n).refs.isEmpty then 0 else 1 := by
  simp only [xk, xRefs, ev_t h]
theorem xk_c (fr : Fr) (v : V) : xk fr (.c v) = bif v.refs.isEmpty then 0 else 2 := rfl

/-- what is made apart, put behind a heap -/
def shiftB (H : Hp) : Option (V × Hp) → Option (V × Hp)
  | none => none
  | some (r, H1) => some (r.ren (betaQ [] H.length H1.length), H ++ H1.map (Box.ren (betaQ [] H.length H1.length)))

theorem slot_pure {fr : Fr} {l : List Nat} (h : slotRefs fr l = []) {t : Nat} (ht : t ∈ l) {v : V} (hv : fr[t]? = some v) : v.pure = true := by
  refine V.pure_of ?_
  have := (List.flatMap_eq_nil_iff.1 h) t ht
  rwa [hv] at this

theorem iso_pure {φ : Phi} {o : AOp} {fr : Fr} {H : Hp} (h : slotRefs fr o.slots = []) : isoRun φ o fr H = shiftB H (o.a.run φ fr []) := by
  have hi : isoIds o fr H = [] := by rw [isoIds, h]; rfl
  have hr : o.a.run φ ((killed o.slots fr).map (V.ren (place []))) [] = o.a.run φ fr [] := by
    refine run_congr fun t ht => ?_
    have ht' : t ∈ o.slots := by simp only [AOp.slots, List.mem_append]; exact .inl ht
    rw [List.getElem?_map, killed_get ht']
    cases hv : fr[t]? with
    | none => rfl
    | some v => simp only [Option.map_some, V.pure_ren (slot_pure h ht' hv)]
  simp only [isoRun, hi, canonH, List.map_nil, hr]
  cases o.a.run φ fr [] with
  | none => rfl
  | some q => obtain ⟨r, H1⟩ := q; simp [shiftB, setAll]

theorem shiftB_nil {H : Hp} {r : V} (h : r.pure = true) : shiftB H (some (r, [])) = some (r, H) := by
  simp only [shiftB, V.pure_ren h, List.map_nil, List.append_nil]
theorem shiftB_cells {H : Hp} {xs : List L} (h : xs.all L.pure = true) : shiftB H (some (.one (.p 0 0), [.cells xs])) = some (.one (.p H.length 0), H ++ [.cells xs]) := by
  simp [shiftB, V.ren, L.ren, betaQ, Box.ren, Ls.pure_ren h]
theorem shiftB_arr {H : Hp} {sz n s f : Nat} {rows : List (List D)} : shiftB H (some (.one (.sl 0 sz 0 n), [.arr s rows f])) = some (.one (.sl H.length sz 0 n), H ++ [.arr s rows f]) := by
  simp [shiftB, V.ren, L.ren, betaQ, Box.ren]
theorem shiftB_arr2 {H : Hp} {sz n s f : Nat} {rows : List (List D)} : shiftB H (some (.one (.sl 1 sz 0 n), [.dead, .arr s rows f])) = some (.one (.sl (H.length + 1) sz 0 n), H ++ [.dead, .arr s rows f]) := by
  simp [shiftB, V.ren, L.ren, betaQ, Box.ren]

theorem ids_one {H : Hp} {i : Nat} {b : Box} (hb : H[i]? = some b) (ha : alive b = true) (hr : b.refs = []) : idsOf H [i] = [i] := by
  have : ∀ n, reach H (n + 1) [i] [] = [i] := by
    intro n
    cases b with
    | dead => cases ha
    | cells xs =>
      rw [reach_cells H n i [] [] hb]
      have : xs.flatMap L.refs = [] := hr
      rw [this]
      cases n <;> rfl
    | arr sz rows fz => rw [reach_arr H n i [] [] hb]; cases n <;> rfl
  exact this 999

theorem setAll_one (H : Hp) (i : Nat) (b : Box) : setAll H [i] [b] = H.set i b := Eq.trans rfl rfl

def gSl (g : Option (Nat × Bool)) : List Nat := match g with | some (t, _) => [t] | none => []
/-- a store into a box of data -/
theorem iso_st {φ : Phi} {d : Option Nat} {g : Option (Nat × Bool)} {p : List Nat} {n a v i off N : Nat} {f : Fn} {H : Hp} {ys xs : List L} (hN : a < N ∧ v < N) (ha : f a = .one (.p i off)) (hv : (f v).cs = some ys) (hy : ys.all L.pure = true)
    (hg : slotRefs (frameOf N f) (gSl g) = []) (hH : H[i]? = some (.cells xs)) (hx : xs.all L.pure = true) (hl : ys.length = n ∧ off + n ≤ xs.length) :
    isoRun φ ⟨d, .st n (.t a) (.t v), g, p, false⟩ (frameOf N f) H = some (.tup [], H.set i (.cells (xs.take off ++ ys ++ xs.drop (off + n)))) ∧ isoIds ⟨d, .st n (.t a) (.t v), g, p, false⟩ (frameOf N f) H = [i] := by
  have hvp : (f v).refs = [] := by
    cases hfv : f v with
    | one x => rw [hfv] at hv; simp only [V.cs, Option.some.injEq] at hv; subst hv; simpa [V.refs] using Ls.pure_refs hy
    | agg zs => rw [hfv] at hv; simp only [V.cs, Option.some.injEq] at hv; subst hv; simpa [V.refs] using Ls.pure_refs hy
    | tup zs => rw [hfv] at hv; simp [V.cs] at hv
    | any => rfl
  have hs : slotRefs (frameOf N f) (AOp.slots ⟨d, .st n (.t a) (.t v), g, p, false⟩) = [i] := by
    have e : AOp.slots ⟨d, .st n (.t a) (.t v), g, p, false⟩ = [a, v] ++ gSl g := rfl
    rw [e]
    have e2 : slotRefs (frameOf N f) ([a, v] ++ gSl g) = slotRefs (frameOf N f) [a, v] ++ slotRefs (frameOf N f) (gSl g) := by simp [slotRefs]
    rw [e2, slotRefs_cons _ hN.1, slotRefs_cons _ hN.2, slotRefs_nil, hvp, ha, hg]
    rfl
  have hi : isoIds ⟨d, .st n (.t a) (.t v), g, p, false⟩ (frameOf N f) H = [i] := by
    rw [isoIds, hs]
    exact ids_one hH rfl (Ls.pure_refs hx)
  refine ⟨?_, hi⟩
  have hrun : (A.st n (.t a) (.t v)).run φ ((killed (AOp.slots ⟨d, .st n (.t a) (.t v), g, p, false⟩) (frameOf N f)).map (V.ren (place [i]))) [.cells xs] = some (.tup [], [.cells (xs.take off ++ ys ++ xs.drop (off + n))]) := by
    have ea : X.ev ((killed (AOp.slots ⟨d, .st n (.t a) (.t v), g, p, false⟩) (frameOf N f)).map (V.ren (place [i]))) (.t a) = some (.one (.p 0 off)) := by
      simp only [X.ev, List.getElem?_map]
      rw [killed_get (by simp [AOp.slots, A.xs, X.slot]), frame_get hN.1, ha]
      simp [V.ren, L.ren, place_cons]
    have ev : X.ev ((killed (AOp.slots ⟨d, .st n (.t a) (.t v), g, p, false⟩) (frameOf N f)).map (V.ren (place [i]))) (.t v) = some (f v) := by
      simp only [X.ev, List.getElem?_map]
      rw [killed_get (by simp [AOp.slots, A.xs, X.slot]), frame_get hN.2]
      simp only [Option.map_some, V.pure_ren (V.pure_of hvp)]
    simp only [A.run, ea, ev, hv, List.getElem?_cons_zero, hl, and_self, if_true, List.set_cons_zero]
  have hc : canonH H [i] = [.cells xs] := by
    simp only [canonH, List.map_cons, List.map_nil, List.getD, hH, Option.getD_some, Box.ren, Ls.pure_ren hx]
  simp only [isoRun, hi, hc, hrun, List.length_cons, List.length_nil]
  have hnew : (xs.take off ++ ys ++ xs.drop (off + n)).all L.pure = true := by
    rw [List.all_eq_true] at hx hy ⊢
    intro x hxm
    simp only [List.mem_append] at hxm
    rcases hxm with (h | h) | h
    · exact hx x (List.mem_of_mem_take h)
    · exact hy x h
    · exact hx x (List.mem_of_mem_drop h)
  simp only [V.ren, List.map_nil, List.take_succ_cons, List.take_zero, List.drop_succ_cons, List.drop_zero, List.map_cons, Box.ren, Ls.pure_ren hnew, setAll_one, List.append_nil, Nat.zero_add, List.take_nil, List.drop_nil, List.take_succ_cons]

theorem ids_two {H : Hp} {i j : Nat} {b c : Box} (hij : i ≠ j) (hb : H[i]? = some b) (ha : alive b = true) (hr : b.refs = []) (hb2 : H[j]? = some c) (ha2 : alive c = true) (hr2 : c.refs = []) : idsOf H [i, j] = [i, j] := by
  have step : ∀ (n k : Nat) (todo seen : List Nat) (x : Box), H[k]? = some x → alive x = true → x.refs = [] → reach H (n + 1) (k :: todo) seen = if seen.contains k then reach H n todo seen else reach H n todo (seen ++ [k]) := by
    intro n k todo seen x hx hax hrx
    cases x with
    | dead => cases hax
    | cells xs => rw [reach_cells H n k todo seen hx]; have : xs.flatMap L.refs = [] := hrx; rw [this]; rfl
    | arr sz rows fz => rw [reach_arr H n k todo seen hx]
  have e : idsOf H [i, j] = reach H (998 + 1 + 1) [i, j] [] := rfl
  rw [e, step _ i _ _ b hb ha hr, if_neg (by simp), step _ j _ _ c hb2 ha2 hr2, if_neg (by simp [Ne.symm hij])]
  rfl

/-- an append to a slice of one's own, of data -/
theorem iso_app {φ : Phi} {d : Option Nat} {g : Option (Nat × Bool)} {p : List Nat} {str : Bool} {sz bytes s b z n z' fz N : Nat} {x : X} {xv : L} {rows : List (List D)} {f : Fn} {H : Hp} (hN : s < N) (hs : f s = .one (.sl b z 0 n)) (hx : x.ev (frameOf N f) = some (.one xv)) (hp : xv.refs = [])
    (hg : slotRefs (frameOf N f) (gSl g) = []) (hH : H[b]? = some (.arr z' rows fz)) :
    isoRun φ ⟨d, .app str sz bytes (.t s) x, g, p, false⟩ (frameOf N f) H = (A.app str sz bytes (.t s) x).run φ (frameOf N f) H ∧ isoIds ⟨d, .app str sz bytes (.t s) x, g, p, false⟩ (frameOf N f) H = [b] := by
  have hxs : slotRefs (frameOf N f) x.slot = [] := by
    cases x with
    | t y =>
      simp only [X.ev] at hx
      simp only [X.slot, slotRefs, List.flatMap_cons, List.flatMap_nil, hx, V.refs, hp, List.append_nil]
    | c v => rfl
  have hsl : slotRefs (frameOf N f) (AOp.slots ⟨d, .app str sz bytes (.t s) x, g, p, false⟩) = [b] := by
    have e : AOp.slots ⟨d, .app str sz bytes (.t s) x, g, p, false⟩ = [s] ++ (x.slot ++ []) ++ gSl g := rfl
    rw [e, List.append_nil]
    have e2 : slotRefs (frameOf N f) ([s] ++ x.slot ++ gSl g) = slotRefs (frameOf N f) [s] ++ slotRefs (frameOf N f) x.slot ++ slotRefs (frameOf N f) (gSl g) := by simp [slotRefs]
    rw [e2, slotRefs_cons _ hN, slotRefs_nil, hxs, hg, hs]
    rfl
  have hi : isoIds ⟨d, .app str sz bytes (.t s) x, g, p, false⟩ (frameOf N f) H = [b] := by
    rw [isoIds, hsl]
    exact ids_one hH rfl rfl
  refine ⟨?_, hi⟩
  have es : X.ev ((killed (AOp.slots ⟨d, .app str sz bytes (.t s) x, g, p, false⟩) (frameOf N f)).map (V.ren (place [b]))) (.t s) = some (.one (.sl 0 z 0 n)) := by
    simp only [X.ev, List.getElem?_map]
    rw [killed_get (by simp [AOp.slots, A.xs, X.slot]), frame_get hN, hs]
    simp [V.ren, L.ren, place_cons]
  have ex : X.ev ((killed (AOp.slots ⟨d, .app str sz bytes (.t s) x, g, p, false⟩) (frameOf N f)).map (V.ren (place [b]))) x = some (.one xv) := by
    cases x with
    | t y =>
      simp only [X.ev] at hx
      simp only [X.ev, List.getElem?_map]
      rw [killed_get (by simp [AOp.slots, A.xs, X.slot]), hx]
      simp only [Option.map_some, V.pure_ren (V.pure_of (v := .one xv) hp)]
    | c v => exact hx
  have hc : canonH H [b] = [.arr z' rows fz] := by
    simp only [canonH, List.map_cons, List.map_nil, List.getD, hH, Option.getD_some, Box.ren]
  have hrow : ∀ H2 : Hp, rowsAt H2 sz xv = rowsAt [] sz xv := fun H2 => rowsAt_norefs hp
  have es0 : X.ev (frameOf N f) (.t s) = some (.one (.sl b z 0 n)) := by rw [ev_t hN, hs]
  simp only [isoRun, hi, hc, A.run, es, ex, es0, hx, hrow, List.getElem?_cons_zero, hH]
  cases str with
  | false =>
    simp only [cond_false]
    cases rowsAt [] sz xv with
    | none => rfl
    | some news =>
      simp only
      by_cases h : ((z' = sz ∨ z' = 0) ∧ n = rows.length ∧ (rows.length + news.length) * bytes ≤ 140737488355328 ∧ rows.length + news.length ≤ 9223372036854775807 ∧ okRows sz news = true)
      · simp only [if_pos h]
        simp [V.ren, L.ren, betaQ, Box.ren, setAll]
      · simp only [if_neg h]
  | true =>
    simp only [cond_true]
    cases xv with
    | d x =>
      cases x with
      | s l =>
        simp only
        by_cases h : ((z' = sz ∨ z' = 0) ∧ n = rows.length ∧ (rows.length + (rowsOfBytes l).length) * bytes ≤ 140737488355328 ∧ rows.length + (rowsOfBytes l).length ≤ 9223372036854775807 ∧ okRows sz (rowsOfBytes l) = true)
        · simp only [if_pos h]
          simp [V.ren, L.ren, betaQ, Box.ren, setAll]
        · simp only [if_neg h]
      | _ => rfl
    | _ => rfl

/-- the same, of what is in another slice of one's own -/
theorem iso_app2 {φ : Phi} {d : Option Nat} {g : Option (Nat × Bool)} {p : List Nat} {sz bytes s b z n z' fz N y b2 z2 o2 n2 z3 fz2 : Nat} {rows rows2 : List (List D)} {f : Fn} {H : Hp} (hN : s < N ∧ y < N) (hs : f s = .one (.sl b z 0 n)) (hy : f y = .one (.sl b2 z2 o2 n2)) (hb : b ≠ b2)
    (hg : slotRefs (frameOf N f) (gSl g) = []) (hH : H[b]? = some (.arr z' rows fz)) (hH2 : H[b2]? = some (.arr z3 rows2 fz2)) :
    isoRun φ ⟨d, .app false sz bytes (.t s) (.t y), g, p, false⟩ (frameOf N f) H = (A.app false sz bytes (.t s) (.t y)).run φ (frameOf N f) H ∧ isoIds ⟨d, .app false sz bytes (.t s) (.t y), g, p, false⟩ (frameOf N f) H = [b, b2] := by
  have hsl : slotRefs (frameOf N f) (AOp.slots ⟨d, .app false sz bytes (.t s) (.t y), g, p, false⟩) = [b, b2] := by
    have e : AOp.slots ⟨d, .app false sz bytes (.t s) (.t y), g, p, false⟩ = [s, y] ++ gSl g := rfl
    rw [e]
    have e2 : slotRefs (frameOf N f) ([s, y] ++ gSl g) = slotRefs (frameOf N f) [s, y] ++ slotRefs (frameOf N f) (gSl g) := by simp [slotRefs]
    rw [e2, slotRefs_cons _ hN.1, slotRefs_cons _ hN.2, slotRefs_nil, hg, hs, hy]
    rfl
  have hi : isoIds ⟨d, .app false sz bytes (.t s) (.t y), g, p, false⟩ (frameOf N f) H = [b, b2] := by
    rw [isoIds, hsl]
    exact ids_two hb hH rfl rfl hH2 rfl rfl
  refine ⟨?_, hi⟩
  have es : X.ev ((killed (AOp.slots ⟨d, .app false sz bytes (.t s) (.t y), g, p, false⟩) (frameOf N f)).map (V.ren (place [b, b2]))) (.t s) = some (.one (.sl 0 z 0 n)) := by
    simp only [X.ev, List.getElem?_map]
    rw [killed_get (by simp [AOp.slots, A.xs, X.slot]), frame_get hN.1, hs]
    simp [V.ren, L.ren, place_cons]
  have ex : X.ev ((killed (AOp.slots ⟨d, .app false sz bytes (.t s) (.t y), g, p, false⟩) (frameOf N f)).map (V.ren (place [b, b2]))) (.t y) = some (.one (.sl 1 z2 o2 n2)) := by
    simp only [X.ev, List.getElem?_map]
    rw [killed_get (by simp [AOp.slots, A.xs, X.slot]), frame_get hN.2, hy]
    simp [V.ren, L.ren, place_cons, hb]
  have hc : canonH H [b, b2] = [.arr z' rows fz, .arr z3 rows2 fz2] := by
    simp only [canonH, List.map_cons, List.map_nil, List.getD, hH, hH2, Option.getD_some, Box.ren]
  have es0 : X.ev (frameOf N f) (.t s) = some (.one (.sl b z 0 n)) := by rw [ev_t hN.1, hs]
  have ex0 : X.ev (frameOf N f) (.t y) = some (.one (.sl b2 z2 o2 n2)) := by rw [ev_t hN.2, hy]
  simp only [isoRun, hi, hc, A.run, es, ex, es0, ex0, rowsAt, List.getElem?_cons_zero, List.getElem?_cons_succ, hH, hH2, cond_false]
  have e2 : (H.set b Box.dead).set b2 (Box.arr z3 rows2 fz2) = H.set b Box.dead := by
    apply List.ext_getElem?
    intro k
    by_cases hk : b2 = k
    · subst hk
      have hlt := (List.getElem?_eq_some_iff.1 hH2).1
      rw [List.getElem?_set_self (by simpa using hlt), List.getElem?_set_ne hb, hH2]
    · rw [List.getElem?_set_ne hk]
  by_cases h0 : (z3 = sz ∨ rows2 = []) ∧ o2 + n2 ≤ rows2.length
  · simp only [if_pos h0]
    by_cases h : ((z' = sz ∨ z' = 0) ∧ n = rows.length ∧ (rows.length + ((rows2.drop o2).take n2).length) * bytes ≤ 140737488355328 ∧ rows.length + ((rows2.drop o2).take n2).length ≤ 9223372036854775807 ∧ okRows sz ((rows2.drop o2).take n2) = true)
    · simp only [if_pos h]
      simp [V.ren, L.ren, betaQ, Box.ren, setAll, e2]
    · simp only [if_neg h]
  · simp only [if_neg h0]

theorem iso_app2s {φ : Phi} {d : Option Nat} {g : Option (Nat × Bool)} {p : List Nat} {sz bytes s b z n z' fz N y b2 z2 o2 n2 z3 fz2 : Nat} {rows rows2 : List (List D)} {f : Fn} {H : Hp} (hN : s < N ∧ y < N) (hs : f s = .one (.sl b z 0 n)) (hy : f y = .one (.sl b2 z2 o2 n2)) (hb : b ≠ b2)
    (hg : slotRefs (frameOf N f) (gSl g) = []) (hH : H[b]? = some (.arr z' rows fz)) (hH2 : H[b2]? = some (.arr z3 rows2 fz2)) :
    isoRun φ ⟨d, .app true sz bytes (.t s) (.t y), g, p, false⟩ (frameOf N f) H = (A.app true sz bytes (.t s) (.t y)).run φ (frameOf N f) H := by
  have hsl : slotRefs (frameOf N f) (AOp.slots ⟨d, .app true sz bytes (.t s) (.t y), g, p, false⟩) = [b, b2] := by
    have e : AOp.slots ⟨d, .app true sz bytes (.t s) (.t y), g, p, false⟩ = [s, y] ++ gSl g := rfl
    rw [e]
    have e2 : slotRefs (frameOf N f) ([s, y] ++ gSl g) = slotRefs (frameOf N f) [s, y] ++ slotRefs (frameOf N f) (gSl g) := by simp [slotRefs]
    rw [e2, slotRefs_cons _ hN.1, slotRefs_cons _ hN.2, slotRefs_nil, hg, hs, hy]
    rfl
  have hi : isoIds ⟨d, .app true sz bytes (.t s) (.t y), g, p, false⟩ (frameOf N f) H = [b, b2] := by
    rw [isoIds, hsl]
    exact ids_two hb hH rfl rfl hH2 rfl rfl
  have es : X.ev ((killed (AOp.slots ⟨d, .app true sz bytes (.t s) (.t y), g, p, false⟩) (frameOf N f)).map (V.ren (place [b, b2]))) (.t s) = some (.one (.sl 0 z 0 n)) := by
    simp only [X.ev, List.getElem?_map]
    rw [killed_get (by simp [AOp.slots, A.xs, X.slot]), frame_get hN.1, hs]
    simp [V.ren, L.ren, place_cons]
  have ex : X.ev ((killed (AOp.slots ⟨d, .app true sz bytes (.t s) (.t y), g, p, false⟩) (frameOf N f)).map (V.ren (place [b, b2]))) (.t y) = some (.one (.sl 1 z2 o2 n2)) := by
    simp only [X.ev, List.getElem?_map]
    rw [killed_get (by simp [AOp.slots, A.xs, X.slot]), frame_get hN.2, hy]
    simp [V.ren, L.ren, place_cons, hb]
  have es0 : X.ev (frameOf N f) (.t s) = some (.one (.sl b z 0 n)) := by rw [ev_t hN.1, hs]
  have ex0 : X.ev (frameOf N f) (.t y) = some (.one (.sl b2 z2 o2 n2)) := by rw [ev_t hN.2, hy]
  simp only [isoRun, hi, A.run, es, ex, es0, ex0, cond_true]

theorem touch_0 (o : AOp) (fr : Fr) (H H1 : Hp) : touch 0 o fr H H1 = [] := rfl
theorem touch_1 (o : AOp) (fr : Fr) (H H1 : Hp) : touch 1 o fr H H1 = slotRefs fr o.slots := rfl
theorem touch_2 (o : AOp) (fr : Fr) (H H1 : Hp) : touch 2 o fr H H1 = isoIds o fr H ++ List.range' H.length (H1.length - H.length) := rfl
theorem isoIds_pure {o : AOp} {fr : Fr} {H : Hp} (h : slotRefs fr o.slots = []) : isoIds o fr H = [] := by rw [isoIds, h]; rfl
theorem iso_st1 {φ : Phi} {d : Option Nat} {g : Option (Nat × Bool)} {p : List Nat} {n a v i off N : Nat} {f : Fn} {H : Hp} {ys xs : List L} (hN : a < N ∧ v < N) (ha : f a = .one (.p i off)) (hv : (f v).cs = some ys) (hy : ys.all L.pure = true)
    (hg : slotRefs (frameOf N f) (gSl g) = []) (hH : H[i]? = some (.cells xs)) (hx : xs.all L.pure = true) (hl : ys.length = n ∧ off + n ≤ xs.length) :
    isoRun φ ⟨d, .st n (.t a) (.t v), g, p, false⟩ (frameOf N f) H = some (.tup [], H.set i (.cells (xs.take off ++ ys ++ xs.drop (off + n)))) := (iso_st hN ha hv hy hg hH hx hl).1
theorem slots_eq (d : Option Nat) (a : A) (g : Option (Nat × Bool)) (p : List Nat) (z : Bool) : AOp.slots ⟨d, a, g, p, z⟩ = a.xs.flatMap X.slot ++ gSl g := rfl
theorem gSl_none : gSl none = [] := rfl
theorem gSl_some (t : Nat) (w : Bool) : gSl (some (t, w)) = [t] := rfl
theorem drC_ok {α : Type} {φ : Phi} {m : Nat} {K : Ex → Fr → Hp → Option α} {fr : Fr} {H : Hp} {st : List KI} {o : AOp} {e : Log} {r : List AOp} {lg lg' : List Log} (h : chk o e lg = true) : drC φ m K (chk o e lg) r lg' fr H st = drawU φ m K r lg' fr H st := by rw [h]; rfl

/-! ### the same as ways on -/
def isoRun' (φ : Phi) (o : AOp) (fr : Fr) (H : Hp) : Option (V × Hp) := isoRun φ o fr H
def idsOf' (H : Hp) (l : List Nat) : List Nat := idsOf H l
def pureB : Option Box → Bool
  | some (.cells xs) => xs.all L.pure
  | some (.arr _ _ _) => true
  | _ => false
def okIds (H : Hp) : List Nat → Bool
  | [] => true
  | i :: r => pureB H[i]? && (!r.contains i && okIds H r)
theorem okIds_nil (H : Hp) : okIds H [] = true := rfl
theorem okIds_cons (H : Hp) (i : Nat) (r : List Nat) : okIds H (i :: r) = (pureB H[i]? && (!r.contains i && okIds H r)) := rfl
theorem pureB_cells (xs : List L) : pureB (some (.cells xs)) = xs.all L.pure := rfl
theorem pureB_arr (sz : Nat) (rows : List (List D)) (fz : Nat) : pureB (some (.arr sz rows fz)) = true := rfl

theorem reach_ok {H : Hp} : ∀ (l seen : List Nat) (n : Nat), okIds H l = true → l.length < n → (∀ i ∈ l, i ∉ seen) → reach H n l seen = seen ++ l
  | [], seen, n, _, hn, _ => by rw [reach_nil]; simp
  | i :: r, seen, n, h, hn, hd => by
    obtain ⟨n, rfl⟩ : ∃ k, n = k + 1 := ⟨n - 1, by omega⟩
    simp only [okIds, Bool.and_eq_true, Bool.not_eq_true'] at h
    obtain ⟨h1, h2, h3⟩ := h
    have hc : seen.contains i = false := by
      have := hd i List.mem_cons_self
      simpa using this
    have ih := reach_ok r (seen ++ [i]) n h3 (by simpa using hn) (fun j hj hs => by
      rcases List.mem_append.1 hs with h | h
      · exact hd j (List.mem_cons_of_mem _ hj) h
      · simp at h; subst h; simp [hj] at h2)
    have key : reach H (n + 1) (i :: r) seen = reach H n r (seen ++ [i]) := by
      cases hb : H[i]? with
      | none => rw [hb] at h1; cases h1
      | some b =>
        rw [hb] at h1
        cases b with
        | dead => cases h1
        | cells xs =>
          have : xs.flatMap L.refs = [] := Ls.pure_refs h1
          rw [reach_cells H n i r seen hb, hc, this]; rfl
        | arr sz rows fz => rw [reach_arr H n i r seen hb, hc]; rfl
    rw [key, ih]; simp

theorem idsE (H : Hp) (l : List Nat) : idsOf H l = bif okIds H l && Nat.ble l.length 900 then l else idsOf' H l := by
  cases h : (okIds H l && Nat.ble l.length 900) with
  | false => rfl
  | true =>
    simp only [Bool.and_eq_true, Nat.ble_eq] at h
    have := reach_ok (H := H) l [] 1000 h.1 (by omega) (by simp)
    simpa [idsOf] using this

theorem renIds_back {ids : List Nat} {q d : Nat} : ∀ {l : List Nat}, (∀ r ∈ l, r ∈ ids) → ∃ js, renIds (place ids) l = some js ∧ renIds (betaQ ids q d) js = some l
  | [], _ => ⟨[], rfl, rfl⟩
  | i :: r, h => by
    obtain ⟨js, h1, h2⟩ := renIds_back (q := q) (d := d) (l := r) fun k hk => h k (List.mem_cons_of_mem _ hk)
    obtain ⟨j, hj⟩ : ∃ j, place ids i = some j := by
      cases hp : place ids i with
      | some j => exact ⟨j, rfl⟩
      | none =>
        simp only [place, List.findIdx?_eq_none_iff] at hp
        have := hp i (h i List.mem_cons_self)
        simp at this
    have hb : betaQ ids q d j = some i := by
      have := place_spec hj
      simp only [betaQ]
      rw [if_pos (List.getElem?_eq_some_iff.1 this).1, this]
    exact ⟨j :: js, by simp only [renIds, hj, h1], by simp only [renIds, hb, h2]⟩
theorem place_back {ids : List Nat} {q d i : Nat} (h : i ∈ ids) : ∃ j, place ids i = some j ∧ betaQ ids q d j = some i ∧ ids[j]? = some i := by
  cases hp : place ids i with
  | some j =>
    have := place_spec hp
    refine ⟨j, rfl, ?_, this⟩
    simp only [betaQ]
    rw [if_pos (List.getElem?_eq_some_iff.1 this).1, this]
  | none =>
    simp only [place, List.findIdx?_eq_none_iff] at hp
    have := hp i h
    simp at this
theorem L.ren_back {ids : List Nat} {q d : Nat} {x : L} (h : ∀ r ∈ x.refs, r ∈ ids) : (x.ren (place ids)).ren (betaQ ids q d) = x := by
  cases x with
  | p i o => obtain ⟨j, h1, h2, _⟩ := place_back (q := q) (d := d) (h i (by simp [L.refs])); simp only [L.ren, h1, h2]
  | ap i k o => obtain ⟨j, h1, h2, _⟩ := place_back (q := q) (d := d) (h i (by simp [L.refs])); simp only [L.ren, h1, h2]
  | sl i z o n => obtain ⟨j, h1, h2, _⟩ := place_back (q := q) (d := d) (h i (by simp [L.refs])); simp only [L.ren, h1, h2]
  | f fn caps => obtain ⟨js, h1, h2⟩ := renIds_back (q := q) (d := d) (l := caps) h; simp only [L.ren, h1, h2]
  | _ => rfl
theorem Ls.ren_back {ids : List Nat} {q d : Nat} : ∀ {xs : List L}, (∀ r ∈ xs.flatMap L.refs, r ∈ ids) → (xs.map (L.ren (place ids))).map (L.ren (betaQ ids q d)) = xs
  | [], _ => rfl
  | x :: r, h => by
    simp only [List.map_cons]
    rw [L.ren_back fun k hk => h k (by rw [List.flatMap_cons]; exact List.mem_append_left _ hk), Ls.ren_back fun k hk => h k (by rw [List.flatMap_cons]; exact List.mem_append_right _ hk)]
theorem Box.ren_back {ids : List Nat} {q d : Nat} {b : Box} (h : ∀ r ∈ b.refs, r ∈ ids) : (b.ren (place ids)).ren (betaQ ids q d) = b := by
  cases b with
  | cells xs => simp only [Box.ren, Ls.ren_back h]
  | _ => rfl
theorem V.cs_ren (ρ : Nat → Option Nat) (v : V) : (v.ren ρ).cs = v.cs.map fun xs => xs.map (L.ren ρ) := by cases v <;> rfl

def closedB (H : Hp) (ids : List Nat) : Bool := ids.all fun k => (match H[k]? with | some b => b.refs | none => []).all ids.contains
theorem closedB_nil (H : Hp) : closedB H [] = true := rfl

def stK (n : Nat) (av : V) (cs : Option (List L)) (H : Hp) (ids : List Nat) (alt : Option (V × Hp)) : Option (V × Hp) := match av, cs with
  | .one (.p i off), some ys => (match H[i]? with
    | some (.cells xs) => bif ids.contains i && ((ys.flatMap L.refs).all ids.contains && (ids.all (fun k => (match H[k]? with | some b => b.refs | none => []).all ids.contains) && (decide (ys.length = n) && decide (off + n ≤ xs.length)))) then some (.tup [], H.set i (.cells (xs.take off ++ ys ++ xs.drop (off + n)))) else alt
    | _ => alt)
  | _, _ => alt
theorem stK_p {n i off : Nat} {ys : List L} {H : Hp} {ids : List Nat} {alt : Option (V × Hp)} : stK n (.one (.p i off)) (some ys) H ids alt = (match H[i]? with
    | some (.cells xs) => bif ids.contains i && ((ys.flatMap L.refs).all ids.contains && (ids.all (fun k => (match H[k]? with | some b => b.refs | none => []).all ids.contains) && (decide (ys.length = n) && decide (off + n ≤ xs.length)))) then some (.tup [], H.set i (.cells (xs.take off ++ ys ++ xs.drop (off + n)))) else alt
    | _ => alt) := rfl
theorem iso_st_e {φ : Phi} {d : Option Nat} {g : Option (Nat × Bool)} {p : List Nat} {n a v N : Nat} {f : Fn} {H : Hp} (hN : a < N ∧ v < N) :
    isoRun φ ⟨d, .st n (.t a) (.t v), g, p, false⟩ (frameOf N f) H = stK n (f a) (f v).cs H (idsOf H (slotRefs (frameOf N f) ([a, v] ++ gSl g))) (isoRun' φ ⟨d, .st n (.t a) (.t v), g, p, false⟩ (frameOf N f) H) := by
  unfold stK
  split
  · rename_i i off ys ha hv
    split
    · rename_i xs hb
      generalize hc : (List.contains _ i && _) = cc
      cases cc with
      | false => rfl
      | true =>
        simp only [Bool.and_eq_true, decide_eq_true_eq, List.all_eq_true, List.contains_iff_mem] at hc
        obtain ⟨c1, c2, c3, c4, c5⟩ := hc
        have hids : isoIds ⟨d, .st n (.t a) (.t v), g, p, false⟩ (frameOf N f) H = idsOf H (slotRefs (frameOf N f) ([a, v] ++ gSl g)) := rfl
        obtain ⟨hn, hal⟩ := idsOf_spec H (slotRefs (frameOf N f) ([a, v] ++ gSl g))
        simp only [isoRun, hids, cond_true]
        generalize idsOf H (slotRefs (frameOf N f) ([a, v] ++ gSl g)) = ids at *
        obtain ⟨j, j1, j2, j3⟩ := place_back (q := H.length) (d := ids.length - ids.length) c1
        have hjl : j < ids.length := (List.getElem?_eq_some_iff.1 j3).1
        have ea : X.ev ((killed (AOp.slots ⟨d, .st n (.t a) (.t v), g, p, false⟩) (frameOf N f)).map (V.ren (place ids))) (.t a) = some (.one (.p j off)) := by
          simp only [X.ev, List.getElem?_map]
          rw [killed_get (by simp [AOp.slots, A.xs, X.slot]), frame_get hN.1, ha]
          simp only [Option.map_some, V.ren, L.ren, j1]
        have ev : X.ev ((killed (AOp.slots ⟨d, .st n (.t a) (.t v), g, p, false⟩) (frameOf N f)).map (V.ren (place ids))) (.t v) = some ((f v).ren (place ids)) := by
          simp only [X.ev, List.getElem?_map]
          rw [killed_get (by simp [AOp.slots, A.xs, X.slot]), frame_get hN.2]
          rfl
        have hcj : (canonH H ids)[j]? = some (.cells (xs.map (L.ren (place ids)))) := by
          simp only [canonH, List.getElem?_map, j3, Option.map_some, List.getD, hb, Option.getD_some, Box.ren]
        have hrun : (A.st n (.t a) (.t v)).run φ ((killed (AOp.slots ⟨d, .st n (.t a) (.t v), g, p, false⟩) (frameOf N f)).map (V.ren (place ids))) (canonH H ids) = some (.tup [], (canonH H ids).set j (.cells ((xs.map (L.ren (place ids))).take off ++ ys.map (L.ren (place ids)) ++ (xs.map (L.ren (place ids))).drop (off + n)))) := by
          simp only [A.run, ea, ev, V.cs_ren, hv, Option.map_some, hcj, List.length_map, c4, c5, and_self, if_true]
        have hcl : (canonH H ids).length = ids.length := by simp [canonH]
        simp only [hrun, List.length_set, hcl, V.ren, List.map_nil, Option.some.injEq, Prod.mk.injEq, true_and]
        have hdr : List.drop ids.length ((canonH H ids).set j (.cells ((xs.map (L.ren (place ids))).take off ++ ys.map (L.ren (place ids)) ++ (xs.map (L.ren (place ids))).drop (off + n)))) = [] := List.drop_eq_nil_of_le (by simp [hcl])
        have htk : List.take ids.length ((canonH H ids).set j (.cells ((xs.map (L.ren (place ids))).take off ++ ys.map (L.ren (place ids)) ++ (xs.map (L.ren (place ids))).drop (off + n)))) = (canonH H ids).set j (.cells ((xs.map (L.ren (place ids))).take off ++ ys.map (L.ren (place ids)) ++ (xs.map (L.ren (place ids))).drop (off + n))) := List.take_of_length_le (by simp [hcl])
        rw [hdr, htk, List.map_nil, List.append_nil]
        have hxs : ∀ r ∈ xs.flatMap L.refs, r ∈ ids := fun r hr => c3 i c1 r (by rw [hb]; exact hr)
        apply List.ext_getElem?
        intro k
        by_cases hk : k ∈ ids
        · obtain ⟨b0, hb0, _⟩ := hal k hk
          have hkl := (List.getElem?_eq_some_iff.1 hb0).1
          obtain ⟨t, ht, rfl⟩ := List.getElem_of_mem hk
          rw [setAll_at ids H _ t ids[t] hn (by simp [hcl]) (by simp [ht]) hkl, List.getElem?_map]
          by_cases htj : j = t
          · subst htj
            have hi : ids[j] = i := by
              have := List.getElem?_eq_getElem ht
              rw [j3] at this
              exact (Option.some.inj this).symm
            rw [List.getElem?_set_self (by rw [hcl]; exact ht), hi, List.getElem?_set_self (by rw [← hi]; exact hkl)]
            simp only [Option.map_some, Box.ren, List.map_append]
            rw [← List.map_take, ← List.map_drop, Ls.ren_back (fun r hr => hxs r (by
                obtain ⟨x, hx, hr⟩ := List.mem_flatMap.1 hr
                exact List.mem_flatMap.2 ⟨x, List.mem_of_mem_take hx, hr⟩)), Ls.ren_back (fun r hr => c2 r hr), Ls.ren_back (fun r hr => hxs r (by
                obtain ⟨x, hx, hr⟩ := List.mem_flatMap.1 hr
                exact List.mem_flatMap.2 ⟨x, List.mem_of_mem_drop hx, hr⟩))]
          · have hne : i ≠ ids[t] := by
              intro e
              exact htj (nodup_inj hn j3 (by rw [e]; simp [ht]))
            rw [List.getElem?_set_ne htj, List.getElem?_set_ne hne, hb0]
            simp only [canonH, List.getElem?_map, List.getElem?_eq_getElem ht, Option.map_some, List.getD, hb0, Option.getD_some]
            rw [Box.ren_back (fun r hr => c3 ids[t] hk r (by rw [hb0]; exact hr))]
        · rw [setAll_other _ _ _ _ hk, List.getElem?_set_ne (fun e => hk (by rw [← e]; exact c1))]
    · rfl
  · rfl

theorem iso_app_e {φ : Phi} {d : Option Nat} {g : Option (Nat × Bool)} {p : List Nat} {str : Bool} {sz bytes s N : Nat} {x : X} {f : Fn} {H : Hp} (hN : s < N) :
    isoRun φ ⟨d, .app str sz bytes (.t s) x, g, p, false⟩ (frameOf N f) H = (match slotRefs (frameOf N f) (gSl g), f s, x.ev (frameOf N f) with
      | [], .one (.sl b _ 0 _), some (.one xv) => (match H[b]? with
        | some (.arr _ _ _) => (match xv.refs with
          | [] => (A.app str sz bytes (.t s) x).run φ (frameOf N f) H
          | _ => isoRun' φ ⟨d, .app str sz bytes (.t s) x, g, p, false⟩ (frameOf N f) H)
        | _ => isoRun' φ ⟨d, .app str sz bytes (.t s) x, g, p, false⟩ (frameOf N f) H)
      | _, _, _ => isoRun' φ ⟨d, .app str sz bytes (.t s) x, g, p, false⟩ (frameOf N f) H) := by
  split
  · rename_i hg hs hx
    split
    · rename_i hb
      split
      · rename_i hr
        exact (iso_app hN hs hx hr hg hb).1
      · rfl
    · rfl
  · rfl
def appK2 (b : Nat) (xv : V) (H : Hp) (run alt : Option (V × Hp)) : Option (V × Hp) := match xv with
  | .one (.sl b2 _ _ _) => (match H[b2]? with | some (.arr _ _ _) => if b = b2 then alt else run | _ => alt)
  | .one (.d _) => run | .one .ns => run | .one (.cl _) => run | .one (.nn _) => run
  | _ => alt
def appK (g : List Nat) (sv xv : V) (H : Hp) (run alt : Option (V × Hp)) : Option (V × Hp) := match g with
  | [] => (match sv with
    | .one (.sl b _ 0 _) => (match H[b]? with | some (.arr _ _ _) => appK2 b xv H run alt | _ => alt)
    | _ => alt)
  | _ => alt
theorem appK2_sl {b b2 z o n : Nat} {H : Hp} {run alt : Option (V × Hp)} : appK2 b (.one (.sl b2 z o n)) H run alt = match H[b2]? with | some (.arr _ _ _) => if b = b2 then alt else run | _ => alt := rfl
theorem appK2_d {b : Nat} {x : D} {H : Hp} {run alt : Option (V × Hp)} : appK2 b (.one (.d x)) H run alt = run := rfl
theorem appK2_ns {b : Nat} {H : Hp} {run alt : Option (V × Hp)} : appK2 b (.one .ns) H run alt = run := rfl
theorem appK2_cl {b : Nat} {x : List (List D)} {H : Hp} {run alt : Option (V × Hp)} : appK2 b (.one (.cl x)) H run alt = run := rfl
theorem appK2_nn {b : Nat} {x : List (List D)} {H : Hp} {run alt : Option (V × Hp)} : appK2 b (.one (.nn x)) H run alt = run := rfl
theorem appK_sl {b z n : Nat} {xv : V} {H : Hp} {run alt : Option (V × Hp)} : appK [] (.one (.sl b z 0 n)) xv H run alt = match H[b]? with | some (.arr _ _ _) => appK2 b xv H run alt | _ => alt := rfl
theorem iso_app2_e {φ : Phi} {d : Option Nat} {g : Option (Nat × Bool)} {p : List Nat} {str : Bool} {sz bytes s y N : Nat} {f : Fn} {H : Hp} (hN : s < N ∧ y < N) :
    isoRun φ ⟨d, .app str sz bytes (.t s) (.t y), g, p, false⟩ (frameOf N f) H = appK (slotRefs (frameOf N f) (gSl g)) (f s) (f y) H ((A.app str sz bytes (.t s) (.t y)).run φ (frameOf N f) H) (isoRun' φ ⟨d, .app str sz bytes (.t s) (.t y), g, p, false⟩ (frameOf N f) H) := by
  unfold appK
  split
  · rename_i hg
    split
    · rename_i hs
      split
      · rename_i hb
        have dat : ∀ xv, f y = .one xv → xv.refs = [] → isoRun φ ⟨d, .app str sz bytes (.t s) (.t y), g, p, false⟩ (frameOf N f) H = (A.app str sz bytes (.t s) (.t y)).run φ (frameOf N f) H := fun xv hy hr => (iso_app hN.1 hs (by rw [ev_t hN.2, hy]) hr hg hb).1
        unfold appK2
        split
        · rename_i hy
          split
          · rename_i hb2
            split
            · rfl
            · rename_i hne
              cases str with
              | false => exact (iso_app2 hN hs hy hne hg hb hb2).1
              | true => exact iso_app2s hN hs hy hne hg hb hb2
          · rfl
        · rename_i hy; exact dat _ hy rfl
        · rename_i hy; exact dat _ hy rfl
        · rename_i hy; exact dat _ hy rfl
        · rename_i hy; exact dat _ hy rfl
        · rfl
      · rfl
    · rfl
  · rfl

def reachK (x : Option Box) (H : Hp) (n i : Nat) (todo seen : List Nat) : List Nat := match x with
  | some (.cells xs) => bif seen.contains i then reach H n todo seen else reach H n (xs.flatMap L.refs ++ todo) (seen ++ [i])
  | some (.arr _ _ _) => bif seen.contains i then reach H n todo seen else reach H n todo (seen ++ [i])
  | _ => reach H n todo seen
theorem reachK_cells {xs : List L} {H : Hp} {n i : Nat} {todo seen : List Nat} : reachK (some (.cells xs)) H n i todo seen = bif seen.contains i then reach H n todo seen else reach H n (xs.flatMap L.refs ++ todo) (seen ++ [i]) := rfl
theorem reachK_arr {sz fz : Nat} {rows : List (List D)} {H : Hp} {n i : Nat} {todo seen : List Nat} : reachK (some (.arr sz rows fz)) H n i todo seen = bif seen.contains i then reach H n todo seen else reach H n todo (seen ++ [i]) := rfl
theorem reachK_dead {H : Hp} {n i : Nat} {todo seen : List Nat} : reachK (some .dead) H n i todo seen = reach H n todo seen := rfl
theorem reach_e (H : Hp) (n i : Nat) (todo seen : List Nat) : reach H (n + 1) (i :: todo) seen = reachK H[i]? H n i todo seen := by
  unfold reachK
  split
  · rename_i xs h
    rw [reach_cells H n i todo seen h]
    cases seen.contains i <;> rfl
  · rename_i h
    rw [reach_arr H n i todo seen h]
    cases seen.contains i <;> rfl
  · rename_i h1 h2
    cases hb : H[i]? with
    | none => simp only [reach, hb]
    | some b =>
      cases b with
      | dead => simp only [reach, hb]
      | cells xs => exact absurd hb (h1 xs)
      | arr a b c => exact absurd hb (h2 a b c)
theorem ids_e (H : Hp) (l : List Nat) : idsOf H l = reach H 1000 l [] := rfl
theorem iso_pure_alloc {φ : Phi} {d : Option Nat} {p : List Nat} {zs : List L} {fr : Fr} {H : Hp} : isoRun φ ⟨d, .alloc zs, none, p, false⟩ fr H = shiftB H (some (.one (.p 0 0), [.cells zs])) := iso_pure rfl
theorem iso_pure_own {φ : Phi} {d : Option Nat} {p : List Nat} {sz : Nat} {fr : Fr} {H : Hp} : isoRun φ ⟨d, .own sz, none, p, false⟩ fr H = shiftB H (some (.one (.sl 0 sz 0 0), [.arr sz [] 0])) := iso_pure rfl
theorem iso_pure_e {φ : Phi} {o : AOp} {fr : Fr} {H : Hp} : isoRun φ o fr H = match slotRefs fr o.slots with | [] => shiftB H (o.a.run φ fr []) | _ => isoRun' φ o fr H := by
  split
  · rename_i h; exact iso_pure h
  · rfl
theorem iso_pure_call {φ : Phi} {d : Option Nat} {g : Option (Nat × Bool)} {p : List Nat} {f : FuncId} {xs : List X} {fr : Fr} {H : Hp} : isoRun φ ⟨d, .call f xs, g, p, false⟩ fr H = match slotRefs fr (xs.flatMap X.slot ++ gSl g) with | [] => shiftB H ((A.call f xs).run φ fr []) | _ => isoRun' φ ⟨d, .call f xs, g, p, false⟩ fr H := iso_pure_e
theorem iso_pure_bsl {φ : Phi} {d : Option Nat} {g : Option (Nat × Bool)} {p : List Nat} {sz : Nat} {z : List (List D)} {ps : List (Nat × X)} {fr : Fr} {H : Hp} : isoRun φ ⟨d, .bsl sz z ps, g, p, false⟩ fr H = match slotRefs fr ((ps.map fun q => q.2).flatMap X.slot ++ gSl g) with | [] => shiftB H ((A.bsl sz z ps).run φ fr []) | _ => isoRun' φ ⟨d, .bsl sz z ps, g, p, false⟩ fr H := iso_pure_e
theorem iso_pure_mks {φ : Phi} {d : Option Nat} {g : Option (Nat × Bool)} {p : List Nat} {sz b : Nat} {z : List D} {l c : X} {fr : Fr} {H : Hp} : isoRun φ ⟨d, .mks sz b z l c, g, p, false⟩ fr H = match slotRefs fr (l.slot ++ (c.slot ++ []) ++ gSl g) with | [] => shiftB H ((A.mks sz b z l c).run φ fr []) | _ => isoRun' φ ⟨d, .mks sz b z l c, g, p, false⟩ fr H := iso_pure_e
theorem iso_pure_s2b {φ : Phi} {d : Option Nat} {g : Option (Nat × Bool)} {p : List Nat} {x : X} {fr : Fr} {H : Hp} : isoRun φ ⟨d, .s2b x, g, p, false⟩ fr H = match slotRefs fr (x.slot ++ [] ++ gSl g) with | [] => shiftB H ((A.s2b x).run φ fr []) | _ => isoRun' φ ⟨d, .s2b x, g, p, false⟩ fr H := iso_pure_e
theorem iso_pure_box {φ : Phi} {d : Option Nat} {g : Option (Nat × Bool)} {p : List Nat} {x : X} {fr : Fr} {H : Hp} : isoRun φ ⟨d, .box x, g, p, false⟩ fr H = match slotRefs fr (x.slot ++ [] ++ gSl g) with | [] => shiftB H ((A.box x).run φ fr []) | _ => isoRun' φ ⟨d, .box x, g, p, false⟩ fr H := iso_pure_e

theorem slot_t (n : Nat) : X.slot (.t n) = [n] := rfl
theorem slot_c (v : V) : X.slot (.c v) = [] := rfl
theorem isoIds_e (o : AOp) (fr : Fr) (H : Hp) : isoIds o fr H = idsOf H (slotRefs fr o.slots) := rfl
theorem range'0 (n : Nat) : List.range' n 0 = [] := rfl
theorem range'1 (n : Nat) : List.range' n 1 = [n] := rfl
theorem range'2 (n : Nat) : List.range' n 2 = [n, n + 1] := rfl
theorem refs_one (x : L) : V.refs (.one x) = x.refs := rfl
theorem refs_agg (xs : List L) : V.refs (.agg xs) = xs.flatMap L.refs := rfl
theorem refs_tup (xs : List (Bool × List L)) : V.refs (.tup xs) = xs.flatMap fun c => c.2.flatMap L.refs := rfl
theorem refs_any : V.refs .any = [] := rfl
theorem refs_d (x : D) : L.refs (.d x) = [] := rfl
theorem refs_p (i o : Nat) : L.refs (.p i o) = [i] := rfl
theorem refs_ap (i k o : Nat) : L.refs (.ap i k o) = [i] := rfl
theorem refs_sl (i z o n : Nat) : L.refs (.sl i z o n) = [i] := rfl
theorem refs_ip (x : List D) : L.refs (.ip x) = [] := rfl
theorem refs_cl (x : List (List D)) : L.refs (.cl x) = [] := rfl
theorem refs_nn (x : List (List D)) : L.refs (.nn x) = [] := rfl
theorem refs_ns : L.refs .ns = [] := rfl
theorem refs_np : L.refs .np = [] := rfl
theorem refs_nf : L.refs .nf = [] := rfl
theorem refs_f (g : FuncId) (l : List Nat) : L.refs (.f g l) = l := rfl
theorem refs_map (xs : List D) : (xs.map L.d).flatMap L.refs = [] := Ls.pure_refs (Ls.pure_map xs)
theorem boxRefs_cells (xs : List L) : Box.refs (.cells xs) = xs.flatMap L.refs := rfl
theorem boxRefs_arr (sz : Nat) (rows : List (List D)) (fz : Nat) : Box.refs (.arr sz rows fz) = [] := rfl
theorem boxRefs_dead : Box.refs .dead = [] := rfl
theorem isEmpty_nil' : ([] : List Nat).isEmpty = true := rfl
theorem isEmpty_cons' (a : Nat) (l : List Nat) : (a :: l).isEmpty = false := rfl
def vdr := And.intro @boxRefs_cells (And.intro @boxRefs_arr (And.intro @boxRefs_dead (And.intro @go_draw (And.intro @draw_nil (And.intro @draw_cons (And.intro @drW_true (And.intro @drW_false (And.intro @drS_0 (And.intro @drS_1 (And.intro @drS_2 (And.intro @drB_some (And.intro @drC_ok (And.intro @ids_e (And.intro @reach_nil (And.intro @reach_e (And.intro @reachK_cells (And.intro @reachK_arr (And.intro @stK_p (And.intro @reachK_dead
  (And.intro @iso_st_e (And.intro @iso_app2_e (And.intro @appK2_sl (And.intro @appK2_d (And.intro @appK2_ns (And.intro @appK2_cl (And.intro @appK2_nn (And.intro @appK_sl (And.intro @iso_pure_alloc (And.intro @iso_pure_own (And.intro @iso_pure_call (And.intro @iso_pure_bsl (And.intro @iso_pure_mks (And.intro @iso_pure_s2b (And.intro @iso_pure_box (And.intro @shiftB_nil (And.intro @shiftB_cells (And.intro @shiftB_arr (And.intro @shiftB_arr2 (And.intro @slotRefs_nil (And.intro @slotRefs_cons (And.intro @xk_t (And.intro @xk_c
  (And.intro @touch_0 (And.intro @touch_1 (And.intro @touch_2 (And.intro @isoIds_e (And.intro @slots_eq (And.intro @gSl_none (And.intro @gSl_some (And.intro @slot_t (And.intro @slot_c (And.intro @range'0 (And.intro @range'1 (And.intro @range'2 (And.intro @refs_one (And.intro @refs_agg (And.intro @refs_tup (And.intro @refs_any (And.intro @refs_d (And.intro @refs_p (And.intro @refs_ap (And.intro @refs_sl (And.intro @refs_ip (And.intro @refs_cl (And.intro @refs_nn (And.intro @refs_ns (And.intro @refs_np (And.intro @refs_nf (And.intro @refs_f (And.intro @refs_map (And.intro @isEmpty_nil' (And.intro @isEmpty_cons' (And.intro @Nat.sub_self (And.intro @List.flatMap_append.{0, 0} @List.map_append.{0, 0}))))))))))))))))))))))))))))))))))))))))))))))))))))))))))))))))))))))))))

theorem iso_at {φ : Phi} {f : FuncId} {args args' : List V} {H H' H1 H2 : Hp} {ids : List Nat} {r r' : V} (hi : idsOf H (args.flatMap V.refs) = ids) (ha : args.map (V.ren (place ids)) = args') (hH : canonH H ids = H')
    (hr : φ f args' H' = some (r, H1)) (he : (r.ren (fun j => if j < ids.length then ids[j]? else some (H.length + (j - ids.length))), setAll H ids ((H1.take ids.length).map (Box.ren (fun j => if j < ids.length then ids[j]? else some (H.length + (j - ids.length))))) ++ (H1.drop ids.length).map (Box.ren (fun j => if j < ids.length then ids[j]? else some (H.length + (j - ids.length))))) = (r', H2)) :
    callIso φ f args H = some (r', H2) := by
  subst hi; subst ha; subst hH
  simp only [callIso, hr]
  rw [he]

/-! ### loops where boxes came in -/
theorem canon_boxM {m N : Nat} {lv : List Nat} {vals : List V} {f : Fn} {H : Hp} (hs : (sortedB lv && lv.all (fun i => Nat.blt i N)) = true) (h : agree lv vals f) :
    canon m lv (frameOf N f) H = (frameOf N (fnAt lv (vals.map (V.ren (place (idsM m H (vals.flatMap V.refs)))))), canonH H (idsM m H (vals.flatMap V.refs))) := by
  simp only [Bool.and_eq_true] at hs
  have hr : (frameOf N (killF lv f)).flatMap V.refs = vals.flatMap V.refs := by
    rw [agree_kill h]
    have := refs_fnAt lv vals 0 N hs.1 (fun _ _ => Nat.zero_le _) (fun i hi => by have := (List.all_eq_true.1 hs.2) i hi; simpa using this) (agree_len h)
    rw [← List.range_eq_range'] at this
    exact this
  simp only [canon, killed_frame, hr]
  refine Prod.ext ?_ rfl
  simp only [frameOf, List.map_map, agree_kill h]
  apply List.map_congr_left
  intro n _
  exact fnAt_ren _ _ _ _

theorem loop_boxM {α σ : Type} {φ : Phi} {m N : Nat} {lv : List Nat} {c : AC} {K : Ex → Fr → Hp → Option α} {st : List KI} (μ : σ → Nat) (P : σ → Prop) (vals : σ → List V) (heap : σ → Hp) (Z : σ → α)
    (hs : ∀ s, P s → ∀ R : Fr → Hp → Option α, (∀ s', μ s' < μ s → P s' → ∀ f' H', canon m lv (frameOf N f') H' = (frameOf N (fnAt lv (vals s')), heap s') → R (frameOf N f') H' = some (Z s')) →
      goU φ m (KL R (KS φ m K st)) c (frameOf N (fnAt lv (vals s))) (heap s) [] = some (Z s)) :
    ∀ s, P s → ∀ f H, canon m lv (frameOf N f) H = (frameOf N (fnAt lv (vals s)), heap s) → goU φ m K (.loop lv c) (frameOf N f) H st = some (Z s) := by
  intro s hP f H hc
  refine loop_rule (m := m) (N := N) μ (fun s f H => P s ∧ canon m lv (frameOf N f) H = (frameOf N (fnAt lv (vals s)), heap s)) Z ?_ s f H ⟨hP, hc⟩
  rintro s f H ⟨hP, hc⟩ R hR
  rw [hc]
  exact hs s hP R (fun s' hlt hP' f' H' hc' => hR s' f' H' hlt ⟨hP', hc'⟩)
theorem at_headM {m N : Nat} {lv : List Nat} {vals0 vals : List V} {f : Fn} {H H' : Hp} {ids : List Nat} (hs : (sortedB lv && lv.all (fun i => Nat.blt i N)) = true) (hv : lv.map f = vals0) (hi : idsM m H (vals0.flatMap V.refs) = ids) (h1 : vals0.map (V.ren (place ids)) = vals) (h2 : canonH H ids = H') :
    canon m lv (frameOf N f) H = (frameOf N (fnAt lv vals), H') := by
  rw [canon_boxM hs (hv ▸ agree_map lv f), hi, h1, h2]
end Go.Vi

