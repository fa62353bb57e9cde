/-
  No cell of these rows narrows 'for every input' (looked for: loops, veiled, ifaces, maps, wideKeys, modest, calm, conditions, laid).
  DERIVED. THE GIVEN ROWS OF THIS SEAT. 4 by the template 'for every input the law returns true; each argument reads behind the call as it read before'; 0 by the template 'total and deterministic' (their statements: YtghfhomfppbooaaGreatTotals.lean).
  GIVEN WITH THE SEED: the statements are not yours to turn. If you find one false, say at which input.
  Laid BY PROGRAM, IN A SANDBOX (cutbox-rows.mjs): the forced cells as the released guide's own fill.sh prints them over the translation 687f8f9bdce1a35f… (all of the seat's roots in one cut). By AI agents, Wed Nov 11 2026. No macro, syntax, notation, axiom, sorry.
-/
import Derived.Test.YtghfhomfppbooaaGreatChecked
import GoSem.Claim
import GoSem.ClaimJoined
import GoSem.ClaimMapViews
import Derived.JoinedTies
import Derived.KernelRfl
namespace Go.Proofs.YtghfhomfppbooaaGreat
/- THE CELL 'sum', in the pinned program and in every row, IS THE sha256 OF THE DUMP (.gsa) THAT YtghfhomfppbooaaGreatProg.lean LOADS. Nothing in Lean hashes anything: it is a label: what it is worth is what the hold of that sum in a sandbox is worth. -/
noncomputable def Tryz.pinned : Pinned := { name := "ytghfhomfppbooaagreat", sum := "687f8f9bdce1a35f0e8998c8e0c8c59ed4fd950f49d9a39b49f5c4d10039ada9", checked := Tryz.checked }
namespace Rows
def none {H : Type} : Left H := { results := [], args := [] }

/-- 'wagonerlaw14.ReopenTells': WHATEVER THE INPUT: true; the input reads as it did. -/
def reopenTellsSpec : ChangeSpec := { name := "reopenTells", fn := fun _ => fun
  | [d] => { results := [.lit (.bool true)], args := [d] }
  | _ => none }
def reopenTellsRow : OpenClaim := { program := "ytghfhomfppbooaagreat", sum := "687f8f9bdce1a35f0e8998c8e0c8c59ed4fd950f49d9a39b49f5c4d10039ada9", func := "wagoner/wagonerlaw14.ReopenTells", spec := "reopenTells", inPlace := ["slices.overlaps[wagoner/api.File]"], unfollowed := true, recurses := true, apart := false }
def ReopenTellsSaid : Prop := reopenTellsRow.holds Tryz.pinned (OpenSpec.ofChange reopenTellsSpec)

/-- ITS FALSE NEIGHBOUR: 'it returns false'. Refute it at one input. -/
def reopenTellsWrong : ChangeSpec := { name := "reopenTells", fn := fun _ => fun
  | [d] => { results := [.lit (.bool false)], args := [d] }
  | _ => none }
def ReopenTellsWrongFalsely : Prop := reopenTellsRow.holds Tryz.pinned (OpenSpec.ofChange reopenTellsWrong)

/-- 'wagonerlaw14.ReopenPlays': WHATEVER THE INPUT: true; the input reads as it did. -/
def reopenPlaysSpec : ChangeSpec := { name := "reopenPlays", fn := fun _ => fun
  | [d] => { results := [.lit (.bool true)], args := [d] }
  | _ => none }
def reopenPlaysRow : OpenClaim := { program := "ytghfhomfppbooaagreat", sum := "687f8f9bdce1a35f0e8998c8e0c8c59ed4fd950f49d9a39b49f5c4d10039ada9", func := "wagoner/wagonerlaw14.ReopenPlays", spec := "reopenPlays", inPlace := ["slices.overlaps[wagoner/api.File]"], unfollowed := true, recurses := true, apart := false }
def ReopenPlaysSaid : Prop := reopenPlaysRow.holds Tryz.pinned (OpenSpec.ofChange reopenPlaysSpec)

/-- ITS FALSE NEIGHBOUR: 'it returns false'. Refute it at one input. -/
def reopenPlaysWrong : ChangeSpec := { name := "reopenPlays", fn := fun _ => fun
  | [d] => { results := [.lit (.bool false)], args := [d] }
  | _ => none }
def ReopenPlaysWrongFalsely : Prop := reopenPlaysRow.holds Tryz.pinned (OpenSpec.ofChange reopenPlaysWrong)

/-- 'wagonerlaw14.ReopenSure': WHATEVER THE INPUT: true; the input reads as it did. -/
def reopenSureSpec : ChangeSpec := { name := "reopenSure", fn := fun _ => fun
  | [d] => { results := [.lit (.bool true)], args := [d] }
  | _ => none }
def reopenSureRow : OpenClaim := { program := "ytghfhomfppbooaagreat", sum := "687f8f9bdce1a35f0e8998c8e0c8c59ed4fd950f49d9a39b49f5c4d10039ada9", func := "wagoner/wagonerlaw14.ReopenSure", spec := "reopenSure", inPlace := ["slices.overlaps[wagoner/api.File]"], unfollowed := true, recurses := true, apart := false }
def ReopenSureSaid : Prop := reopenSureRow.holds Tryz.pinned (OpenSpec.ofChange reopenSureSpec)

/-- ITS FALSE NEIGHBOUR: 'it returns false'. Refute it at one input. -/
def reopenSureWrong : ChangeSpec := { name := "reopenSure", fn := fun _ => fun
  | [d] => { results := [.lit (.bool false)], args := [d] }
  | _ => none }
def ReopenSureWrongFalsely : Prop := reopenSureRow.holds Tryz.pinned (OpenSpec.ofChange reopenSureWrong)

/-- 'wagonerlaw14.ReopenTwice': WHATEVER THE INPUT: true; the input reads as it did. -/
def reopenTwiceSpec : ChangeSpec := { name := "reopenTwice", fn := fun _ => fun
  | [d] => { results := [.lit (.bool true)], args := [d] }
  | _ => none }
def reopenTwiceRow : OpenClaim := { program := "ytghfhomfppbooaagreat", sum := "687f8f9bdce1a35f0e8998c8e0c8c59ed4fd950f49d9a39b49f5c4d10039ada9", func := "wagoner/wagonerlaw14.ReopenTwice", spec := "reopenTwice", inPlace := ["slices.overlaps[wagoner/api.File]"], unfollowed := true, recurses := true, apart := false }
def ReopenTwiceSaid : Prop := reopenTwiceRow.holds Tryz.pinned (OpenSpec.ofChange reopenTwiceSpec)

/-- ITS FALSE NEIGHBOUR: 'it returns false'. Refute it at one input. -/
def reopenTwiceWrong : ChangeSpec := { name := "reopenTwice", fn := fun _ => fun
  | [d] => { results := [.lit (.bool false)], args := [d] }
  | _ => none }
def ReopenTwiceWrongFalsely : Prop := reopenTwiceRow.holds Tryz.pinned (OpenSpec.ofChange reopenTwiceWrong)

/- THE SECOND FORM. 'bulk': how many values and letters a reading holds, each counted each time it is reached (what is shared counts as often as it is met; a slice's spare places count too). A statement '..UptoSaid' is the law's where the arguments, and the package variables that the reading takes, are together of bulk at most 1048576: NARROWER than '..Said'. Prove '..Said' where nothing that the law and all that it calls make is longer than what came in: it says more and counts as full. Else prove '..UptoSaid'. A law counts once. -/
mutual
def uptoBulk {H : Type} : DataW H → Nat
  | .lit (.string bytes) => bytes.length + 1
  | .lit _ => 1
  | .nil => 1
  | .ptr d => uptoBulk d + 1
  | .slice elems spare => uptoBulkAll elems + uptoBulkAll spare + 1
  | .agg parts => uptoBulkAll parts + 1
  | .iface _ d => uptoBulk d + 1
  | .map entries => uptoBulkEntries entries + 1
  | .held _ => 1
def uptoBulkAll {H : Type} : List (DataW H) → Nat
  | [] => 0
  | d :: r => uptoBulk d + uptoBulkAll r
def uptoBulkEntries {H : Type} : List (Lit × DataW H) → Nat
  | [] => 0
  | x :: r => uptoBulkEntry x + uptoBulkEntries r
def uptoBulkEntry {H : Type} : Lit × DataW H → Nat
  | (.string bytes, d) => bytes.length + uptoBulk d + 1
  | (_, d) => uptoBulk d + 1
 end
def uptoSmall : (H : Type) → List (DataW H) → Bool := fun _ ds => decide (uptoBulkAll ds ≤ 1048576)
def OpenSpec.upto (s : _root_.Go.ChangeSpec) : _root_.Go.OpenSpec := { _root_.Go.OpenSpec.ofChange s with cond := some uptoSmall }

/-- 'wagonerlaw14.ReopenTells', WHERE WHAT IT READS IS OF BULK AT MOST 1048576: true; the input reads as it did. -/
def reopenTellsUptoRow : OpenClaim := { program := "ytghfhomfppbooaagreat", sum := "687f8f9bdce1a35f0e8998c8e0c8c59ed4fd950f49d9a39b49f5c4d10039ada9", func := "wagoner/wagonerlaw14.ReopenTells", spec := "reopenTells", inPlace := ["slices.overlaps[wagoner/api.File]"], unfollowed := true, recurses := true, apart := false, narrowed := true }
def ReopenTellsUptoSaid : Prop := reopenTellsUptoRow.holds Tryz.pinned (OpenSpec.upto reopenTellsSpec)

/-- 'wagonerlaw14.ReopenPlays', WHERE WHAT IT READS IS OF BULK AT MOST 1048576: true; the input reads as it did. -/
def reopenPlaysUptoRow : OpenClaim := { program := "ytghfhomfppbooaagreat", sum := "687f8f9bdce1a35f0e8998c8e0c8c59ed4fd950f49d9a39b49f5c4d10039ada9", func := "wagoner/wagonerlaw14.ReopenPlays", spec := "reopenPlays", inPlace := ["slices.overlaps[wagoner/api.File]"], unfollowed := true, recurses := true, apart := false, narrowed := true }
def ReopenPlaysUptoSaid : Prop := reopenPlaysUptoRow.holds Tryz.pinned (OpenSpec.upto reopenPlaysSpec)

/-- 'wagonerlaw14.ReopenSure', WHERE WHAT IT READS IS OF BULK AT MOST 1048576: true; the input reads as it did. -/
def reopenSureUptoRow : OpenClaim := { program := "ytghfhomfppbooaagreat", sum := "687f8f9bdce1a35f0e8998c8e0c8c59ed4fd950f49d9a39b49f5c4d10039ada9", func := "wagoner/wagonerlaw14.ReopenSure", spec := "reopenSure", inPlace := ["slices.overlaps[wagoner/api.File]"], unfollowed := true, recurses := true, apart := false, narrowed := true }
def ReopenSureUptoSaid : Prop := reopenSureUptoRow.holds Tryz.pinned (OpenSpec.upto reopenSureSpec)

/-- 'wagonerlaw14.ReopenTwice', WHERE WHAT IT READS IS OF BULK AT MOST 1048576: true; the input reads as it did. -/
def reopenTwiceUptoRow : OpenClaim := { program := "ytghfhomfppbooaagreat", sum := "687f8f9bdce1a35f0e8998c8e0c8c59ed4fd950f49d9a39b49f5c4d10039ada9", func := "wagoner/wagonerlaw14.ReopenTwice", spec := "reopenTwice", inPlace := ["slices.overlaps[wagoner/api.File]"], unfollowed := true, recurses := true, apart := false, narrowed := true }
def ReopenTwiceUptoSaid : Prop := reopenTwiceUptoRow.holds Tryz.pinned (OpenSpec.upto reopenTwiceSpec)

end Rows
end Go.Proofs.YtghfhomfppbooaaGreat
