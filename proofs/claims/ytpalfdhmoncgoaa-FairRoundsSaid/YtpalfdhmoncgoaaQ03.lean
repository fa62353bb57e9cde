import Derived.Test.YtpalfdhmoncgoaaQ02
set_option linter.unusedSimpArgs false
set_option linter.unusedVariables false
namespace Go.Proofs.Ytpalfdhmoncgoaa
open Go.Vi
set_option linter.unusedSimpArgs false

/-! ### a conf of small numbers -/
structure Cf where
  nodes : Int
  seg : Int
  keep : Int
  count : Int
  batch : Int
  most : Int
  window : Int
  held : Int
  chunk : Int
  pending : Int
  links : Int
  beat : Int
  retry : Int
  lease : Int
  top : Int
  deriving DecidableEq
def Cf.enc (e : Cf) : List D := [.i .i64 e.nodes, .i .i64 e.seg, .i .i64 e.keep, .i .i64 e.count, .i .i64 e.batch, .i .i64 e.most, .i .i64 e.window, .i .i64 e.held, .i .i64 e.chunk, .i .i64 e.pending, .i .i64 e.links, .i .i64 e.beat, .i .i64 e.retry, .i .i64 e.lease, .i .i64 e.top]
theorem Cf.len (e : Cf) : e.enc.length = 15 := Eq.trans rfl rfl
theorem Cf.tk (e : Cf) : e.enc.take 15 = e.enc := Eq.trans rfl rfl
theorem Cf.tkL (e : Cf) : (e.enc.map L.d).take 15 = e.enc.map L.d := Eq.trans rfl rfl
theorem Cf.dat (e : Cf) : dataLs (e.enc.map L.d) = some (e.enc.map L.d) := Eq.trans rfl rfl
theorem Cf.rfs (e : Cf) : (e.enc.map L.d).flatMap L.refs = [] := Eq.trans rfl rfl
theorem Cf.rn (e : Cf) (g : Nat → Option Nat) : (e.enc.map L.d).map (L.ren g) = e.enc.map L.d := Eq.trans rfl rfl
theorem Cf.lenL (e : Cf) : (e.enc.map L.d).length = 15 := Eq.trans rfl rfl
theorem Cf.at0 (e : Cf) : e.enc[0]? = some (.i .i64 e.nodes) := Eq.trans rfl rfl
theorem Cf.fd0 (e : Cf) : (e.enc.map L.d)[0]? = some (.d (.i .i64 e.nodes)) := Eq.trans rfl rfl
theorem Cf.at1 (e : Cf) : (e.enc.drop 1)[0]? = some (.i .i64 e.seg) := Eq.trans rfl rfl
theorem Cf.fd1 (e : Cf) : (e.enc.map L.d)[1]? = some (.d (.i .i64 e.seg)) := Eq.trans rfl rfl
theorem Cf.at2 (e : Cf) : (e.enc.drop 2)[0]? = some (.i .i64 e.keep) := Eq.trans rfl rfl
theorem Cf.fd2 (e : Cf) : (e.enc.map L.d)[2]? = some (.d (.i .i64 e.keep)) := Eq.trans rfl rfl
theorem Cf.at3 (e : Cf) : (e.enc.drop 3)[0]? = some (.i .i64 e.count) := Eq.trans rfl rfl
theorem Cf.fd3 (e : Cf) : (e.enc.map L.d)[3]? = some (.d (.i .i64 e.count)) := Eq.trans rfl rfl
theorem Cf.at4 (e : Cf) : (e.enc.drop 4)[0]? = some (.i .i64 e.batch) := Eq.trans rfl rfl
theorem Cf.fd4 (e : Cf) : (e.enc.map L.d)[4]? = some (.d (.i .i64 e.batch)) := Eq.trans rfl rfl
theorem Cf.at5 (e : Cf) : (e.enc.drop 5)[0]? = some (.i .i64 e.most) := Eq.trans rfl rfl
theorem Cf.fd5 (e : Cf) : (e.enc.map L.d)[5]? = some (.d (.i .i64 e.most)) := Eq.trans rfl rfl
theorem Cf.at6 (e : Cf) : (e.enc.drop 6)[0]? = some (.i .i64 e.window) := Eq.trans rfl rfl
theorem Cf.fd6 (e : Cf) : (e.enc.map L.d)[6]? = some (.d (.i .i64 e.window)) := Eq.trans rfl rfl
theorem Cf.at7 (e : Cf) : (e.enc.drop 7)[0]? = some (.i .i64 e.held) := Eq.trans rfl rfl
theorem Cf.fd7 (e : Cf) : (e.enc.map L.d)[7]? = some (.d (.i .i64 e.held)) := Eq.trans rfl rfl
theorem Cf.at8 (e : Cf) : (e.enc.drop 8)[0]? = some (.i .i64 e.chunk) := Eq.trans rfl rfl
theorem Cf.fd8 (e : Cf) : (e.enc.map L.d)[8]? = some (.d (.i .i64 e.chunk)) := Eq.trans rfl rfl
theorem Cf.at9 (e : Cf) : (e.enc.drop 9)[0]? = some (.i .i64 e.pending) := Eq.trans rfl rfl
theorem Cf.fd9 (e : Cf) : (e.enc.map L.d)[9]? = some (.d (.i .i64 e.pending)) := Eq.trans rfl rfl
theorem Cf.at10 (e : Cf) : (e.enc.drop 10)[0]? = some (.i .i64 e.links) := Eq.trans rfl rfl
theorem Cf.fd10 (e : Cf) : (e.enc.map L.d)[10]? = some (.d (.i .i64 e.links)) := Eq.trans rfl rfl
theorem Cf.at11 (e : Cf) : (e.enc.drop 11)[0]? = some (.i .i64 e.beat) := Eq.trans rfl rfl
theorem Cf.fd11 (e : Cf) : (e.enc.map L.d)[11]? = some (.d (.i .i64 e.beat)) := Eq.trans rfl rfl
theorem Cf.at12 (e : Cf) : (e.enc.drop 12)[0]? = some (.i .i64 e.retry) := Eq.trans rfl rfl
theorem Cf.fd12 (e : Cf) : (e.enc.map L.d)[12]? = some (.d (.i .i64 e.retry)) := Eq.trans rfl rfl
theorem Cf.at13 (e : Cf) : (e.enc.drop 13)[0]? = some (.i .i64 e.lease) := Eq.trans rfl rfl
theorem Cf.fd13 (e : Cf) : (e.enc.map L.d)[13]? = some (.d (.i .i64 e.lease)) := Eq.trans rfl rfl
theorem Cf.at14 (e : Cf) : (e.enc.drop 14)[0]? = some (.i .i64 e.top) := Eq.trans rfl rfl
theorem Cf.fd14 (e : Cf) : (e.enc.map L.d)[14]? = some (.d (.i .i64 e.top)) := Eq.trans rfl rfl
theorem Cf.up0 (e : Cf) (x : Int) : .i .i64 x :: e.enc.drop 1 = ({ e with nodes := x } : Cf).enc := Eq.trans rfl rfl
theorem Cf.up1 (e : Cf) (x : Int) : e.enc.take 1 ++ [.i .i64 x] ++ e.enc.drop 2 = ({ e with seg := x } : Cf).enc := Eq.trans rfl rfl
theorem Cf.up2 (e : Cf) (x : Int) : e.enc.take 2 ++ [.i .i64 x] ++ e.enc.drop 3 = ({ e with keep := x } : Cf).enc := Eq.trans rfl rfl
theorem Cf.up3 (e : Cf) (x : Int) : e.enc.take 3 ++ [.i .i64 x] ++ e.enc.drop 4 = ({ e with count := x } : Cf).enc := Eq.trans rfl rfl
theorem Cf.up4 (e : Cf) (x : Int) : e.enc.take 4 ++ [.i .i64 x] ++ e.enc.drop 5 = ({ e with batch := x } : Cf).enc := Eq.trans rfl rfl
theorem Cf.up5 (e : Cf) (x : Int) : e.enc.take 5 ++ [.i .i64 x] ++ e.enc.drop 6 = ({ e with most := x } : Cf).enc := Eq.trans rfl rfl
theorem Cf.up6 (e : Cf) (x : Int) : e.enc.take 6 ++ [.i .i64 x] ++ e.enc.drop 7 = ({ e with window := x } : Cf).enc := Eq.trans rfl rfl
theorem Cf.up7 (e : Cf) (x : Int) : e.enc.take 7 ++ [.i .i64 x] ++ e.enc.drop 8 = ({ e with held := x } : Cf).enc := Eq.trans rfl rfl
theorem Cf.up8 (e : Cf) (x : Int) : e.enc.take 8 ++ [.i .i64 x] ++ e.enc.drop 9 = ({ e with chunk := x } : Cf).enc := Eq.trans rfl rfl
theorem Cf.up9 (e : Cf) (x : Int) : e.enc.take 9 ++ [.i .i64 x] ++ e.enc.drop 10 = ({ e with pending := x } : Cf).enc := Eq.trans rfl rfl
theorem Cf.up10 (e : Cf) (x : Int) : e.enc.take 10 ++ [.i .i64 x] ++ e.enc.drop 11 = ({ e with links := x } : Cf).enc := Eq.trans rfl rfl
theorem Cf.up11 (e : Cf) (x : Int) : e.enc.take 11 ++ [.i .i64 x] ++ e.enc.drop 12 = ({ e with beat := x } : Cf).enc := Eq.trans rfl rfl
theorem Cf.up12 (e : Cf) (x : Int) : e.enc.take 12 ++ [.i .i64 x] ++ e.enc.drop 13 = ({ e with retry := x } : Cf).enc := Eq.trans rfl rfl
theorem Cf.up13 (e : Cf) (x : Int) : e.enc.take 13 ++ [.i .i64 x] ++ e.enc.drop 14 = ({ e with lease := x } : Cf).enc := Eq.trans rfl rfl
theorem Cf.up14 (e : Cf) (x : Int) : e.enc.take 14 ++ [.i .i64 x] ++ e.enc.drop 15 = ({ e with top := x } : Cf).enc := Eq.trans rfl rfl
def Cf.ok (e : Cf) : Prop := (-9223372036854775808 ≤ e.nodes ∧ e.nodes < 9223372036854775808) ∧ (-9223372036854775808 ≤ e.seg ∧ e.seg < 9223372036854775808) ∧ (-9223372036854775808 ≤ e.keep ∧ e.keep < 9223372036854775808) ∧ (-9223372036854775808 ≤ e.count ∧ e.count < 9223372036854775808) ∧ (-9223372036854775808 ≤ e.batch ∧ e.batch < 9223372036854775808) ∧ (-9223372036854775808 ≤ e.most ∧ e.most < 9223372036854775808) ∧ (-9223372036854775808 ≤ e.window ∧ e.window < 9223372036854775808) ∧ (-9223372036854775808 ≤ e.held ∧ e.held < 9223372036854775808) ∧ (-9223372036854775808 ≤ e.chunk ∧ e.chunk < 9223372036854775808) ∧ (-9223372036854775808 ≤ e.pending ∧ e.pending < 9223372036854775808) ∧ (-9223372036854775808 ≤ e.links ∧ e.links < 9223372036854775808) ∧ (-9223372036854775808 ≤ e.beat ∧ e.beat < 9223372036854775808) ∧ (-9223372036854775808 ≤ e.retry ∧ e.retry < 9223372036854775808) ∧ (-9223372036854775808 ≤ e.lease ∧ e.lease < 9223372036854775808) ∧ (-9223372036854775808 ≤ e.top ∧ e.top < 9223372036854775808)
def Cf.ty : List Ty := [.i .i64, .i .i64, .i .i64, .i .i64, .i .i64, .i .i64, .i .i64, .i .i64, .i .i64, .i .i64, .i .i64, .i .i64, .i .i64, .i .i64, .i .i64]
theorem Cf.eqs (a b : Cf) : scEqs [0, 0, 0, 0, 0, 0, 0, 0, 0, 0, 0, 0, 0, 0, 0] (a.enc.map L.d) (b.enc.map L.d) = some (decide (a = b)) := by
  cases a; cases b
  simp only [Cf.enc, List.map_cons, List.map_nil, scEqs, scEq, if_true, Cf.mk.injEq]
  congr 1
  rw [Bool.eq_iff_iff]
  simp only [Bool.and_eq_true, beq_iff_eq, decide_eq_true_eq, and_true]
theorem Cf.of (r : List D) (h : wfRow Cf.ty r) : ∃ e : Cf, r = e.enc ∧ e.ok := by
  simp only [Cf.ty, wfRow, wfT] at h
  obtain ⟨_, _, rfl, ⟨x0, rfl, h0, g0⟩, ⟨_, _, rfl, ⟨x1, rfl, h1, g1⟩, ⟨_, _, rfl, ⟨x2, rfl, h2, g2⟩, ⟨_, _, rfl, ⟨x3, rfl, h3, g3⟩, ⟨_, _, rfl, ⟨x4, rfl, h4, g4⟩, ⟨_, _, rfl, ⟨x5, rfl, h5, g5⟩, ⟨_, _, rfl, ⟨x6, rfl, h6, g6⟩, ⟨_, _, rfl, ⟨x7, rfl, h7, g7⟩, ⟨_, _, rfl, ⟨x8, rfl, h8, g8⟩, ⟨_, _, rfl, ⟨x9, rfl, h9, g9⟩, ⟨_, _, rfl, ⟨x10, rfl, h10, g10⟩, ⟨_, _, rfl, ⟨x11, rfl, h11, g11⟩, ⟨_, _, rfl, ⟨x12, rfl, h12, g12⟩, ⟨_, _, rfl, ⟨x13, rfl, h13, g13⟩, ⟨_, _, rfl, ⟨x14, rfl, h14, g14⟩, rfl⟩⟩⟩⟩⟩⟩⟩⟩⟩⟩⟩⟩⟩⟩⟩ := h
  refine ⟨⟨x0, x1, x2, x3, x4, x5, x6, x7, x8, x9, x10, x11, x12, x13, x14⟩, rfl, ?_⟩
  exact ⟨⟨Int.le_trans (by decide) h0, Int.lt_of_le_of_lt g0 (by decide)⟩, ⟨Int.le_trans (by decide) h1, Int.lt_of_le_of_lt g1 (by decide)⟩, ⟨Int.le_trans (by decide) h2, Int.lt_of_le_of_lt g2 (by decide)⟩, ⟨Int.le_trans (by decide) h3, Int.lt_of_le_of_lt g3 (by decide)⟩, ⟨Int.le_trans (by decide) h4, Int.lt_of_le_of_lt g4 (by decide)⟩, ⟨Int.le_trans (by decide) h5, Int.lt_of_le_of_lt g5 (by decide)⟩, ⟨Int.le_trans (by decide) h6, Int.lt_of_le_of_lt g6 (by decide)⟩, ⟨Int.le_trans (by decide) h7, Int.lt_of_le_of_lt g7 (by decide)⟩, ⟨Int.le_trans (by decide) h8, Int.lt_of_le_of_lt g8 (by decide)⟩, ⟨Int.le_trans (by decide) h9, Int.lt_of_le_of_lt g9 (by decide)⟩, ⟨Int.le_trans (by decide) h10, Int.lt_of_le_of_lt g10 (by decide)⟩, ⟨Int.le_trans (by decide) h11, Int.lt_of_le_of_lt g11 (by decide)⟩, ⟨Int.le_trans (by decide) h12, Int.lt_of_le_of_lt g12 (by decide)⟩, ⟨Int.le_trans (by decide) h13, Int.lt_of_le_of_lt g13 (by decide)⟩, ⟨Int.le_trans (by decide) h14, Int.lt_of_le_of_lt g14 (by decide)⟩⟩

structure Kn where
  k0 : Int
  k1 : Int
  k2 : Int
  k3 : Int
  k4 : Int
  k5 : Int
  k6 : Int
  k7 : Int
  k8 : Int
  k9 : Int
  k10 : Int
  k11 : Int
  deriving DecidableEq
def Kn.enc (e : Kn) : List D := [.i .u8 e.k0, .i .u8 e.k1, .i .u8 e.k2, .i .u8 e.k3, .i .u8 e.k4, .i .u8 e.k5, .i .u8 e.k6, .i .u8 e.k7, .i .u8 e.k8, .i .u8 e.k9, .i .u8 e.k10, .i .u8 e.k11]
theorem Kn.len (e : Kn) : e.enc.length = 12 := Eq.trans rfl rfl
theorem Kn.tk (e : Kn) : e.enc.take 12 = e.enc := Eq.trans rfl rfl
theorem Kn.tkL (e : Kn) : (e.enc.map L.d).take 12 = e.enc.map L.d := Eq.trans rfl rfl
theorem Kn.dat (e : Kn) : dataLs (e.enc.map L.d) = some (e.enc.map L.d) := Eq.trans rfl rfl
theorem Kn.rfs (e : Kn) : (e.enc.map L.d).flatMap L.refs = [] := Eq.trans rfl rfl
theorem Kn.rn (e : Kn) (g : Nat → Option Nat) : (e.enc.map L.d).map (L.ren g) = e.enc.map L.d := Eq.trans rfl rfl
theorem Kn.lenL (e : Kn) : (e.enc.map L.d).length = 12 := Eq.trans rfl rfl
theorem Kn.at0 (e : Kn) : e.enc[0]? = some (.i .u8 e.k0) := Eq.trans rfl rfl
theorem Kn.fd0 (e : Kn) : (e.enc.map L.d)[0]? = some (.d (.i .u8 e.k0)) := Eq.trans rfl rfl
theorem Kn.at1 (e : Kn) : (e.enc.drop 1)[0]? = some (.i .u8 e.k1) := Eq.trans rfl rfl
theorem Kn.fd1 (e : Kn) : (e.enc.map L.d)[1]? = some (.d (.i .u8 e.k1)) := Eq.trans rfl rfl
theorem Kn.at2 (e : Kn) : (e.enc.drop 2)[0]? = some (.i .u8 e.k2) := Eq.trans rfl rfl
theorem Kn.fd2 (e : Kn) : (e.enc.map L.d)[2]? = some (.d (.i .u8 e.k2)) := Eq.trans rfl rfl
theorem Kn.at3 (e : Kn) : (e.enc.drop 3)[0]? = some (.i .u8 e.k3) := Eq.trans rfl rfl
theorem Kn.fd3 (e : Kn) : (e.enc.map L.d)[3]? = some (.d (.i .u8 e.k3)) := Eq.trans rfl rfl
theorem Kn.at4 (e : Kn) : (e.enc.drop 4)[0]? = some (.i .u8 e.k4) := Eq.trans rfl rfl
theorem Kn.fd4 (e : Kn) : (e.enc.map L.d)[4]? = some (.d (.i .u8 e.k4)) := Eq.trans rfl rfl
theorem Kn.at5 (e : Kn) : (e.enc.drop 5)[0]? = some (.i .u8 e.k5) := Eq.trans rfl rfl
theorem Kn.fd5 (e : Kn) : (e.enc.map L.d)[5]? = some (.d (.i .u8 e.k5)) := Eq.trans rfl rfl
theorem Kn.at6 (e : Kn) : (e.enc.drop 6)[0]? = some (.i .u8 e.k6) := Eq.trans rfl rfl
theorem Kn.fd6 (e : Kn) : (e.enc.map L.d)[6]? = some (.d (.i .u8 e.k6)) := Eq.trans rfl rfl
theorem Kn.at7 (e : Kn) : (e.enc.drop 7)[0]? = some (.i .u8 e.k7) := Eq.trans rfl rfl
theorem Kn.fd7 (e : Kn) : (e.enc.map L.d)[7]? = some (.d (.i .u8 e.k7)) := Eq.trans rfl rfl
theorem Kn.at8 (e : Kn) : (e.enc.drop 8)[0]? = some (.i .u8 e.k8) := Eq.trans rfl rfl
theorem Kn.fd8 (e : Kn) : (e.enc.map L.d)[8]? = some (.d (.i .u8 e.k8)) := Eq.trans rfl rfl
theorem Kn.at9 (e : Kn) : (e.enc.drop 9)[0]? = some (.i .u8 e.k9) := Eq.trans rfl rfl
theorem Kn.fd9 (e : Kn) : (e.enc.map L.d)[9]? = some (.d (.i .u8 e.k9)) := Eq.trans rfl rfl
theorem Kn.at10 (e : Kn) : (e.enc.drop 10)[0]? = some (.i .u8 e.k10) := Eq.trans rfl rfl
theorem Kn.fd10 (e : Kn) : (e.enc.map L.d)[10]? = some (.d (.i .u8 e.k10)) := Eq.trans rfl rfl
theorem Kn.at11 (e : Kn) : (e.enc.drop 11)[0]? = some (.i .u8 e.k11) := Eq.trans rfl rfl
theorem Kn.fd11 (e : Kn) : (e.enc.map L.d)[11]? = some (.d (.i .u8 e.k11)) := Eq.trans rfl rfl
theorem Kn.up0 (e : Kn) (x : Int) : .i .u8 x :: e.enc.drop 1 = ({ e with k0 := x } : Kn).enc := Eq.trans rfl rfl
theorem Kn.up1 (e : Kn) (x : Int) : e.enc.take 1 ++ [.i .u8 x] ++ e.enc.drop 2 = ({ e with k1 := x } : Kn).enc := Eq.trans rfl rfl
theorem Kn.up2 (e : Kn) (x : Int) : e.enc.take 2 ++ [.i .u8 x] ++ e.enc.drop 3 = ({ e with k2 := x } : Kn).enc := Eq.trans rfl rfl
theorem Kn.up3 (e : Kn) (x : Int) : e.enc.take 3 ++ [.i .u8 x] ++ e.enc.drop 4 = ({ e with k3 := x } : Kn).enc := Eq.trans rfl rfl
theorem Kn.up4 (e : Kn) (x : Int) : e.enc.take 4 ++ [.i .u8 x] ++ e.enc.drop 5 = ({ e with k4 := x } : Kn).enc := Eq.trans rfl rfl
theorem Kn.up5 (e : Kn) (x : Int) : e.enc.take 5 ++ [.i .u8 x] ++ e.enc.drop 6 = ({ e with k5 := x } : Kn).enc := Eq.trans rfl rfl
theorem Kn.up6 (e : Kn) (x : Int) : e.enc.take 6 ++ [.i .u8 x] ++ e.enc.drop 7 = ({ e with k6 := x } : Kn).enc := Eq.trans rfl rfl
theorem Kn.up7 (e : Kn) (x : Int) : e.enc.take 7 ++ [.i .u8 x] ++ e.enc.drop 8 = ({ e with k7 := x } : Kn).enc := Eq.trans rfl rfl
theorem Kn.up8 (e : Kn) (x : Int) : e.enc.take 8 ++ [.i .u8 x] ++ e.enc.drop 9 = ({ e with k8 := x } : Kn).enc := Eq.trans rfl rfl
theorem Kn.up9 (e : Kn) (x : Int) : e.enc.take 9 ++ [.i .u8 x] ++ e.enc.drop 10 = ({ e with k9 := x } : Kn).enc := Eq.trans rfl rfl
theorem Kn.up10 (e : Kn) (x : Int) : e.enc.take 10 ++ [.i .u8 x] ++ e.enc.drop 11 = ({ e with k10 := x } : Kn).enc := Eq.trans rfl rfl
theorem Kn.up11 (e : Kn) (x : Int) : e.enc.take 11 ++ [.i .u8 x] ++ e.enc.drop 12 = ({ e with k11 := x } : Kn).enc := Eq.trans rfl rfl
def Kn.ok (e : Kn) : Prop := (0 ≤ e.k0 ∧ e.k0 < 256) ∧ (0 ≤ e.k1 ∧ e.k1 < 256) ∧ (0 ≤ e.k2 ∧ e.k2 < 256) ∧ (0 ≤ e.k3 ∧ e.k3 < 256) ∧ (0 ≤ e.k4 ∧ e.k4 < 256) ∧ (0 ≤ e.k5 ∧ e.k5 < 256) ∧ (0 ≤ e.k6 ∧ e.k6 < 256) ∧ (0 ≤ e.k7 ∧ e.k7 < 256) ∧ (0 ≤ e.k8 ∧ e.k8 < 256) ∧ (0 ≤ e.k9 ∧ e.k9 < 256) ∧ (0 ≤ e.k10 ∧ e.k10 < 256) ∧ (0 ≤ e.k11 ∧ e.k11 < 256)
def Kn.ty : List Ty := [.i .u8, .i .u8, .i .u8, .i .u8, .i .u8, .i .u8, .i .u8, .i .u8, .i .u8, .i .u8, .i .u8, .i .u8]
theorem Kn.eqs (a b : Kn) : scEqs [0, 0, 0, 0, 0, 0, 0, 0, 0, 0, 0, 0] (a.enc.map L.d) (b.enc.map L.d) = some (decide (a = b)) := by
  cases a; cases b
  simp only [Kn.enc, List.map_cons, List.map_nil, scEqs, scEq, if_true, Kn.mk.injEq]
  congr 1
  rw [Bool.eq_iff_iff]
  simp only [Bool.and_eq_true, beq_iff_eq, decide_eq_true_eq, and_true]
theorem Kn.of (r : List D) (h : wfRow Kn.ty r) : ∃ e : Kn, r = e.enc ∧ e.ok := by
  simp only [Kn.ty, wfRow, wfT] at h
  obtain ⟨_, _, rfl, ⟨x0, rfl, h0, g0⟩, ⟨_, _, rfl, ⟨x1, rfl, h1, g1⟩, ⟨_, _, rfl, ⟨x2, rfl, h2, g2⟩, ⟨_, _, rfl, ⟨x3, rfl, h3, g3⟩, ⟨_, _, rfl, ⟨x4, rfl, h4, g4⟩, ⟨_, _, rfl, ⟨x5, rfl, h5, g5⟩, ⟨_, _, rfl, ⟨x6, rfl, h6, g6⟩, ⟨_, _, rfl, ⟨x7, rfl, h7, g7⟩, ⟨_, _, rfl, ⟨x8, rfl, h8, g8⟩, ⟨_, _, rfl, ⟨x9, rfl, h9, g9⟩, ⟨_, _, rfl, ⟨x10, rfl, h10, g10⟩, ⟨_, _, rfl, ⟨x11, rfl, h11, g11⟩, rfl⟩⟩⟩⟩⟩⟩⟩⟩⟩⟩⟩⟩ := h
  refine ⟨⟨x0, x1, x2, x3, x4, x5, x6, x7, x8, x9, x10, x11⟩, rfl, ?_⟩
  exact ⟨⟨Int.le_trans (by decide) h0, Int.lt_of_le_of_lt g0 (by decide)⟩, ⟨Int.le_trans (by decide) h1, Int.lt_of_le_of_lt g1 (by decide)⟩, ⟨Int.le_trans (by decide) h2, Int.lt_of_le_of_lt g2 (by decide)⟩, ⟨Int.le_trans (by decide) h3, Int.lt_of_le_of_lt g3 (by decide)⟩, ⟨Int.le_trans (by decide) h4, Int.lt_of_le_of_lt g4 (by decide)⟩, ⟨Int.le_trans (by decide) h5, Int.lt_of_le_of_lt g5 (by decide)⟩, ⟨Int.le_trans (by decide) h6, Int.lt_of_le_of_lt g6 (by decide)⟩, ⟨Int.le_trans (by decide) h7, Int.lt_of_le_of_lt g7 (by decide)⟩, ⟨Int.le_trans (by decide) h8, Int.lt_of_le_of_lt g8 (by decide)⟩, ⟨Int.le_trans (by decide) h9, Int.lt_of_le_of_lt g9 (by decide)⟩, ⟨Int.le_trans (by decide) h10, Int.lt_of_le_of_lt g10 (by decide)⟩, ⟨Int.le_trans (by decide) h11, Int.lt_of_le_of_lt g11 (by decide)⟩⟩

def confF (k : Kn) : Cf := ⟨1 + k.k0 % 4, 20 + k.k1 % 80, k.k2, 1 + k.k3 % 40, 100 + k.k4 % 100, 1 + k.k5 % 4, 100 + k.k4 % 100 + k.k5, k.k6 % 4, 16 + k.k7 % 40, 1 + k.k8 % 8, 1 + k.k9 % 6, 1 + k.k10 % 3, 1 + k.k10 % 3 + k.k10 % 5, 1 + k.k11 % 20,
  if 240 < k.k8 then (if k.k3 % 30 < 1 then 1 else k.k3 % 30) else 1099511627776⟩
theorem tm {a b : Int} (h : 0 ≤ a) : a.tmod b = a % b := Int.tmod_eq_emod_of_nonneg h
set_option maxRecDepth 20000 in
set_option maxHeartbeats 2000000 in
theorem conf_spec (k : Kn) (hk : k.ok) : call 4 [.agg (k.enc.map .d)] [] = some (.agg ((confF k).enc.map .d), []) := by
  obtain ⟨k0, k1, k2, k3, k4, k5, k6, k7, k8, k9, k10, k11⟩ := k
  simp only [Kn.ok] at hk
  obtain ⟨h0, h1, h2, h3, h4, h5, h6, h7, h8, h9, h10, h11⟩ := hk
  apply enterS s4 rfl
  obtain ⟨Z, hZ⟩ : ∃ Z : V × Hp, Z = (.agg ((confF ⟨k0, k1, k2, k3, k4, k5, k6, k7, k8, k9, k10, k11⟩).enc.map .d), []) := ⟨_, rfl⟩
  rw [← hZ]
  have t0 := tm (a := k0) (b := 4) h0.1
  have t1 := tm (a := k1) (b := 80) h1.1
  have t3 := tm (a := k3) (b := 40) h3.1
  have t3' := tm (a := k3) (b := 30) h3.1
  have t4 := tm (a := k4) (b := 100) h4.1
  have t5 := tm (a := k5) (b := 4) h5.1
  have t6 := tm (a := k6) (b := 4) h6.1
  have t7 := tm (a := k7) (b := 40) h7.1
  have t8 := tm (a := k8) (b := 8) h8.1
  have t9 := tm (a := k9) (b := 6) h9.1
  have t10 := tm (a := k10) (b := 3) h10.1
  have t10' := tm (a := k10) (b := 5) h10.1
  have t11 := tm (a := k11) (b := 20) h11.1
  by_cases c : 240 < k8
  · by_cases c2 : k3 % 30 < 1
    · have hm : (1 : Int) > k3 % 30 := c2
      (simp (disch := first | decide | omega | (intros; exact Eq.trans rfl rfl) | (simp only [puri]; done)) only [a4, Kn.enc, List.map_cons, List.map_nil, t0, t1, t3, t3', t4, t5, t6, t7, t8, t9, t10, t10', t11, c, hm, vis, visL, visB, fillR, rowsAt, toDs, toD, ↓ops_cons, ↓ops_consz, fzTs, fzLs, rg, rd, o, oz, kc, kb, ks, kx, on, og, od, ogd, A.run, evI, evOpt, evs, evP, argF, V.cs, binD, fzV, fzL, fzVs, dataVs, dataLs, V.data, L.data, unD, fillL, List.take_succ_cons, List.take_zero, List.drop_succ_cons, List.drop_zero, List.cons_append, ne_eq, Nat.reduceLT, Nat.reduceBEq, ↓reduceIte, Nat.reduceEqDiff, Nat.reduceAdd, Nat.reduceMul, Nat.reduceSub, Int.reduceToNat, Nat.reduceLeDiff, Int.reduceNeg, Int.reduceEq, Int.reduceLT, Int.reduceLE, Int.reduceBEq, Int.reduceBNe, Int.reduceToNat, dis])
      rw [hZ]; simp [confF, Cf.enc, c, c2]
    · have hm : ¬ (1 : Int) > k3 % 30 := c2
      (simp (disch := first | decide | omega | (intros; exact Eq.trans rfl rfl) | (simp only [puri]; done)) only [a4, Kn.enc, List.map_cons, List.map_nil, t0, t1, t3, t3', t4, t5, t6, t7, t8, t9, t10, t10', t11, c, hm, vis, visL, visB, fillR, rowsAt, toDs, toD, ↓ops_cons, ↓ops_consz, fzTs, fzLs, rg, rd, o, oz, kc, kb, ks, kx, on, og, od, ogd, A.run, evI, evOpt, evs, evP, argF, V.cs, binD, fzV, fzL, fzVs, dataVs, dataLs, V.data, L.data, unD, fillL, List.take_succ_cons, List.take_zero, List.drop_succ_cons, List.drop_zero, List.cons_append, ne_eq, Nat.reduceLT, Nat.reduceBEq, ↓reduceIte, Nat.reduceEqDiff, Nat.reduceAdd, Nat.reduceMul, Nat.reduceSub, Int.reduceToNat, Nat.reduceLeDiff, Int.reduceNeg, Int.reduceEq, Int.reduceLT, Int.reduceLE, Int.reduceBEq, Int.reduceBNe, Int.reduceToNat, dis])
      rw [hZ]; simp [confF, Cf.enc, c, c2]
  · (simp (disch := first | decide | omega | (intros; exact Eq.trans rfl rfl) | (simp only [puri]; done)) only [a4, Kn.enc, List.map_cons, List.map_nil, t0, t1, t3, t3', t4, t5, t6, t7, t8, t9, t10, t10', t11, c, vis, visL, visB, fillR, rowsAt, toDs, toD, ↓ops_cons, ↓ops_consz, fzTs, fzLs, rg, rd, o, oz, kc, kb, ks, kx, on, og, od, ogd, A.run, evI, evOpt, evs, evP, argF, V.cs, binD, fzV, fzL, fzVs, dataVs, dataLs, V.data, L.data, unD, fillL, List.take_succ_cons, List.take_zero, List.drop_succ_cons, List.drop_zero, List.cons_append, ne_eq, Nat.reduceLT, Nat.reduceBEq, ↓reduceIte, Nat.reduceEqDiff, Nat.reduceAdd, Nat.reduceMul, Nat.reduceSub, Int.reduceToNat, Nat.reduceLeDiff, Int.reduceNeg, Int.reduceEq, Int.reduceLT, Int.reduceLE, Int.reduceBEq, Int.reduceBNe, Int.reduceToNat, dis])
    rw [hZ]; simp [confF, Cf.enc, c]
end Go.Proofs.Ytpalfdhmoncgoaa
