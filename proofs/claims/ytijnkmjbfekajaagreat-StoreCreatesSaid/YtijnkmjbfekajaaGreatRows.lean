/-
  No cell of these rows narrows 'for every input' (looked for: loops, veiled, ifaces, maps, wideKeys, modest, calm, conditions, laid).
  DERIVED. THE GIVEN ROWS OF THIS SEAT. 3 by the template 'for every input the law returns true; each argument reads behind the call as it read before'; 0 by the template 'total and deterministic' (their statements: YtijnkmjbfekajaaGreatTotals.lean).
  GIVEN WITH THE SEED: the statements are not yours to turn. If you find one false, say at which input.
  Laid BY PROGRAM, IN A SANDBOX (cutbox-rows.mjs): the forced cells as the released guide's own fill.sh prints them over the translation 3b6c0fa0813b4b2d… (all of the seat's roots in one cut). By AI agents, Wed Nov 11 2026. No macro, syntax, notation, axiom, sorry.
-/
import Derived.Test.YtijnkmjbfekajaaGreatChecked
import GoSem.Claim
import GoSem.ClaimJoined
import GoSem.ClaimMapViews
import Derived.JoinedTies
import Derived.KernelRfl
namespace Go.Proofs.YtijnkmjbfekajaaGreat
/- THE CELL 'sum', in the pinned program and in every row, IS THE sha256 OF THE DUMP (.gsa) THAT YtijnkmjbfekajaaGreatProg.lean LOADS. Nothing in Lean hashes anything: it is a label: what it is worth is what the hold of that sum in a sandbox is worth. -/
noncomputable def Tryz.pinned : Pinned := { name := "ytijnkmjbfekajaagreat", sum := "3b6c0fa0813b4b2d965dd5383020ff01fdc33c07cd1546c433fd8aa823a014d2", checked := Tryz.checked }
namespace Rows
def none {H : Type} : Left H := { results := [], args := [] }

/-- 'wagonerlaw12.StorePlays': WHATEVER THE INPUT: true; the input reads as it did. -/
def storePlaysSpec : ChangeSpec := { name := "storePlays", fn := fun _ => fun
  | [d1, d2] => { results := [.lit (.bool true)], args := [d1, d2] }
  | _ => none }
def storePlaysRow : OpenClaim := { program := "ytijnkmjbfekajaagreat", sum := "3b6c0fa0813b4b2d965dd5383020ff01fdc33c07cd1546c433fd8aa823a014d2", func := "wagoner/wagonerlaw12.StorePlays", spec := "storePlays", inPlace := ["slices.overlaps[wagoner/api.File]"], unfollowed := true, recurses := true, apart := false }
def StorePlaysSaid : Prop := storePlaysRow.holds Tryz.pinned (OpenSpec.ofChange storePlaysSpec)

/-- ITS FALSE NEIGHBOUR: 'it returns false'. Refute it at one input. -/
def storePlaysWrong : ChangeSpec := { name := "storePlays", fn := fun _ => fun
  | [d1, d2] => { results := [.lit (.bool false)], args := [d1, d2] }
  | _ => none }
def StorePlaysWrongFalsely : Prop := storePlaysRow.holds Tryz.pinned (OpenSpec.ofChange storePlaysWrong)

/-- 'wagonerlaw12.StoreReads': WHATEVER THE INPUT: true; the input reads as it did. -/
def storeReadsSpec : ChangeSpec := { name := "storeReads", fn := fun _ => fun
  | [d] => { results := [.lit (.bool true)], args := [d] }
  | _ => none }
def storeReadsRow : OpenClaim := { program := "ytijnkmjbfekajaagreat", sum := "3b6c0fa0813b4b2d965dd5383020ff01fdc33c07cd1546c433fd8aa823a014d2", func := "wagoner/wagonerlaw12.StoreReads", spec := "storeReads", inPlace := ["slices.overlaps[wagoner/api.File]"], unfollowed := true, recurses := true, apart := false }
def StoreReadsSaid : Prop := storeReadsRow.holds Tryz.pinned (OpenSpec.ofChange storeReadsSpec)

/-- ITS FALSE NEIGHBOUR: 'it returns false'. Refute it at one input. -/
def storeReadsWrong : ChangeSpec := { name := "storeReads", fn := fun _ => fun
  | [d] => { results := [.lit (.bool false)], args := [d] }
  | _ => none }
def StoreReadsWrongFalsely : Prop := storeReadsRow.holds Tryz.pinned (OpenSpec.ofChange storeReadsWrong)

/-- 'wagonerlaw12.StoreCreates': WHATEVER THE INPUT: true; the input reads as it did. -/
def storeCreatesSpec : ChangeSpec := { name := "storeCreates", fn := fun _ => fun
  | [d1, d2] => { results := [.lit (.bool true)], args := [d1, d2] }
  | _ => none }
def storeCreatesRow : OpenClaim := { program := "ytijnkmjbfekajaagreat", sum := "3b6c0fa0813b4b2d965dd5383020ff01fdc33c07cd1546c433fd8aa823a014d2", func := "wagoner/wagonerlaw12.StoreCreates", spec := "storeCreates", inPlace := ["slices.overlaps[wagoner/api.File]"], unfollowed := true, recurses := true, apart := false }
def StoreCreatesSaid : Prop := storeCreatesRow.holds Tryz.pinned (OpenSpec.ofChange storeCreatesSpec)

/-- ITS FALSE NEIGHBOUR: 'it returns false'. Refute it at one input. -/
def storeCreatesWrong : ChangeSpec := { name := "storeCreates", fn := fun _ => fun
  | [d1, d2] => { results := [.lit (.bool false)], args := [d1, d2] }
  | _ => none }
def StoreCreatesWrongFalsely : Prop := storeCreatesRow.holds Tryz.pinned (OpenSpec.ofChange storeCreatesWrong)

/- THE SECOND FORM. 'bulk': how many values and letters a reading holds, each counted each time it is reached (what is shared counts as often as it is met; a slice's spare places count too). A statement '..UptoSaid' is the law's where the arguments, and the package variables that the reading takes, are together of bulk at most 1048576: NARROWER than '..Said'. Prove '..Said' where nothing that the law and all that it calls make is longer than what came in: it says more and counts as full. Else prove '..UptoSaid'. A law counts once. -/
mutual
def uptoBulk {H : Type} : DataW H → Nat
  | .lit (.string bytes) => bytes.length + 1
  | .lit _ => 1
  | .nil => 1
  | .ptr d => uptoBulk d + 1
  | .slice elems spare => uptoBulkAll elems + uptoBulkAll spare + 1
  | .agg parts => uptoBulkAll parts + 1
  | .iface _ d => uptoBulk d + 1
  | .map entries => uptoBulkEntries entries + 1
  | .held _ => 1
def uptoBulkAll {H : Type} : List (DataW H) → Nat
  | [] => 0
  | d :: r => uptoBulk d + uptoBulkAll r
def uptoBulkEntries {H : Type} : List (Lit × DataW H) → Nat
  | [] => 0
  | x :: r => uptoBulkEntry x + uptoBulkEntries r
def uptoBulkEntry {H : Type} : Lit × DataW H → Nat
  | (.string bytes, d) => bytes.length + uptoBulk d + 1
  | (_, d) => uptoBulk d + 1
 end
def uptoSmall : (H : Type) → List (DataW H) → Bool := fun _ ds => decide (uptoBulkAll ds ≤ 1048576)
def OpenSpec.upto (s : _root_.Go.ChangeSpec) : _root_.Go.OpenSpec := { _root_.Go.OpenSpec.ofChange s with cond := some uptoSmall }

/-- 'wagonerlaw12.StorePlays', WHERE WHAT IT READS IS OF BULK AT MOST 1048576: true; the input reads as it did. -/
def storePlaysUptoRow : OpenClaim := { program := "ytijnkmjbfekajaagreat", sum := "3b6c0fa0813b4b2d965dd5383020ff01fdc33c07cd1546c433fd8aa823a014d2", func := "wagoner/wagonerlaw12.StorePlays", spec := "storePlays", inPlace := ["slices.overlaps[wagoner/api.File]"], unfollowed := true, recurses := true, apart := false, narrowed := true }
def StorePlaysUptoSaid : Prop := storePlaysUptoRow.holds Tryz.pinned (OpenSpec.upto storePlaysSpec)

/-- 'wagonerlaw12.StoreReads', WHERE WHAT IT READS IS OF BULK AT MOST 1048576: true; the input reads as it did. -/
def storeReadsUptoRow : OpenClaim := { program := "ytijnkmjbfekajaagreat", sum := "3b6c0fa0813b4b2d965dd5383020ff01fdc33c07cd1546c433fd8aa823a014d2", func := "wagoner/wagonerlaw12.StoreReads", spec := "storeReads", inPlace := ["slices.overlaps[wagoner/api.File]"], unfollowed := true, recurses := true, apart := false, narrowed := true }
def StoreReadsUptoSaid : Prop := storeReadsUptoRow.holds Tryz.pinned (OpenSpec.upto storeReadsSpec)

/-- 'wagonerlaw12.StoreCreates', WHERE WHAT IT READS IS OF BULK AT MOST 1048576: true; the input reads as it did. -/
def storeCreatesUptoRow : OpenClaim := { program := "ytijnkmjbfekajaagreat", sum := "3b6c0fa0813b4b2d965dd5383020ff01fdc33c07cd1546c433fd8aa823a014d2", func := "wagoner/wagonerlaw12.StoreCreates", spec := "storeCreates", inPlace := ["slices.overlaps[wagoner/api.File]"], unfollowed := true, recurses := true, apart := false, narrowed := true }
def StoreCreatesUptoSaid : Prop := storeCreatesUptoRow.holds Tryz.pinned (OpenSpec.upto storeCreatesSpec)

end Rows
end Go.Proofs.YtijnkmjbfekajaaGreat
