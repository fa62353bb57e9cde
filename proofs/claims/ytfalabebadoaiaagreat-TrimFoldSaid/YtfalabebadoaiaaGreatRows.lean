/-
  No cell of these rows narrows 'for every input' (looked for: loops, veiled, ifaces, maps, wideKeys, modest, calm, conditions, laid).
  DERIVED. THE GIVEN ROWS OF THIS SEAT. 4 by the template 'for every input the law returns true; each argument reads behind the call as it read before'; 0 by the template 'total and deterministic' (their statements: YtfalabebadoaiaaGreatTotals.lean).
  GIVEN WITH THE SEED: the statements are not yours to turn. If you find one false, say at which input.
  Laid BY PROGRAM, IN A SANDBOX (cutbox-rows.mjs): the forced cells as the released guide's own fill.sh prints them over the translation 73b2e28cfafd9a8e… (all of the seat's roots in one cut). By AI agents, Wed Nov 11 2026. No macro, syntax, notation, axiom, sorry.
-/
import Derived.Test.YtfalabebadoaiaaGreatChecked
import GoSem.Claim
import GoSem.ClaimJoined
import GoSem.ClaimMapViews
import Derived.JoinedTies
import Derived.KernelRfl
namespace Go.Proofs.YtfalabebadoaiaaGreat
/- THE CELL 'sum', in the pinned program and in every row, IS THE sha256 OF THE DUMP (.gsa) THAT YtfalabebadoaiaaGreatProg.lean LOADS. Nothing in Lean hashes anything: it is a label: what it is worth is what the hold of that sum in a sandbox is worth. -/
noncomputable def Tryz.pinned : Pinned := { name := "ytfalabebadoaiaagreat", sum := "73b2e28cfafd9a8e385cff0e3d4031c499c50199734fa9ebede1e3d1845ca170", checked := Tryz.checked }
namespace Rows
def none {H : Type} : Left H := { results := [], args := [] }

/-- 'wagonerlaw13.TrimPlays': WHATEVER THE INPUT: true; the input reads as it did. -/
def trimPlaysSpec : ChangeSpec := { name := "trimPlays", fn := fun _ => fun
  | [d] => { results := [.lit (.bool true)], args := [d] }
  | _ => none }
def trimPlaysRow : OpenClaim := { program := "ytfalabebadoaiaagreat", sum := "73b2e28cfafd9a8e385cff0e3d4031c499c50199734fa9ebede1e3d1845ca170", func := "wagoner/wagonerlaw13.TrimPlays", spec := "trimPlays", inPlace := ["slices.overlaps[wagoner/api.Pair]", "slices.overlaps[wagoner/api.File]"], unfollowed := true, recurses := true, apart := false }
def TrimPlaysSaid : Prop := trimPlaysRow.holds Tryz.pinned (OpenSpec.ofChange trimPlaysSpec)

/-- ITS FALSE NEIGHBOUR: 'it returns false'. Refute it at one input. -/
def trimPlaysWrong : ChangeSpec := { name := "trimPlays", fn := fun _ => fun
  | [d] => { results := [.lit (.bool false)], args := [d] }
  | _ => none }
def TrimPlaysWrongFalsely : Prop := trimPlaysRow.holds Tryz.pinned (OpenSpec.ofChange trimPlaysWrong)

/-- 'wagonerlaw13.TrimStates': WHATEVER THE INPUT: true; the input reads as it did. -/
def trimStatesSpec : ChangeSpec := { name := "trimStates", fn := fun _ => fun
  | [d1, d2, d3] => { results := [.lit (.bool true)], args := [d1, d2, d3] }
  | _ => none }
def trimStatesRow : OpenClaim := { program := "ytfalabebadoaiaagreat", sum := "73b2e28cfafd9a8e385cff0e3d4031c499c50199734fa9ebede1e3d1845ca170", func := "wagoner/wagonerlaw13.TrimStates", spec := "trimStates", inPlace := ["slices.overlaps[wagoner/api.Pair]", "slices.overlaps[wagoner/api.File]"], unfollowed := true, recurses := true, apart := false }
def TrimStatesSaid : Prop := trimStatesRow.holds Tryz.pinned (OpenSpec.ofChange trimStatesSpec)

/-- ITS FALSE NEIGHBOUR: 'it returns false'. Refute it at one input. -/
def trimStatesWrong : ChangeSpec := { name := "trimStates", fn := fun _ => fun
  | [d1, d2, d3] => { results := [.lit (.bool false)], args := [d1, d2, d3] }
  | _ => none }
def TrimStatesWrongFalsely : Prop := trimStatesRow.holds Tryz.pinned (OpenSpec.ofChange trimStatesWrong)

/-- 'wagonerlaw13.TrimKeeps': WHATEVER THE INPUT: true; the input reads as it did. -/
def trimKeepsSpec : ChangeSpec := { name := "trimKeeps", fn := fun _ => fun
  | [d1, d2, d3] => { results := [.lit (.bool true)], args := [d1, d2, d3] }
  | _ => none }
def trimKeepsRow : OpenClaim := { program := "ytfalabebadoaiaagreat", sum := "73b2e28cfafd9a8e385cff0e3d4031c499c50199734fa9ebede1e3d1845ca170", func := "wagoner/wagonerlaw13.TrimKeeps", spec := "trimKeeps", inPlace := ["slices.overlaps[wagoner/api.Pair]", "slices.overlaps[wagoner/api.File]"], unfollowed := true, recurses := true, apart := false }
def TrimKeepsSaid : Prop := trimKeepsRow.holds Tryz.pinned (OpenSpec.ofChange trimKeepsSpec)

/-- ITS FALSE NEIGHBOUR: 'it returns false'. Refute it at one input. -/
def trimKeepsWrong : ChangeSpec := { name := "trimKeeps", fn := fun _ => fun
  | [d1, d2, d3] => { results := [.lit (.bool false)], args := [d1, d2, d3] }
  | _ => none }
def TrimKeepsWrongFalsely : Prop := trimKeepsRow.holds Tryz.pinned (OpenSpec.ofChange trimKeepsWrong)

/-- 'wagonerlaw13.TrimFold': WHATEVER THE INPUT: true; the input reads as it did. -/
def trimFoldSpec : ChangeSpec := { name := "trimFold", fn := fun _ => fun
  | [d] => { results := [.lit (.bool true)], args := [d] }
  | _ => none }
def trimFoldRow : OpenClaim := { program := "ytfalabebadoaiaagreat", sum := "73b2e28cfafd9a8e385cff0e3d4031c499c50199734fa9ebede1e3d1845ca170", func := "wagoner/wagonerlaw13.TrimFold", spec := "trimFold", inPlace := ["slices.overlaps[wagoner/api.Pair]", "slices.overlaps[wagoner/api.File]"], unfollowed := true, recurses := true, apart := false }
def TrimFoldSaid : Prop := trimFoldRow.holds Tryz.pinned (OpenSpec.ofChange trimFoldSpec)

/-- ITS FALSE NEIGHBOUR: 'it returns false'. Refute it at one input. -/
def trimFoldWrong : ChangeSpec := { name := "trimFold", fn := fun _ => fun
  | [d] => { results := [.lit (.bool false)], args := [d] }
  | _ => none }
def TrimFoldWrongFalsely : Prop := trimFoldRow.holds Tryz.pinned (OpenSpec.ofChange trimFoldWrong)

/- THE SECOND FORM. 'bulk': how many values and letters a reading holds, each counted each time it is reached (what is shared counts as often as it is met; a slice's spare places count too). A statement '..UptoSaid' is the law's where the arguments, and the package variables that the reading takes, are together of bulk at most 1048576: NARROWER than '..Said'. Prove '..Said' where nothing that the law and all that it calls make is longer than what came in: it says more and counts as full. Else prove '..UptoSaid'. A law counts once. -/
mutual
def uptoBulk {H : Type} : DataW H → Nat
  | .lit (.string bytes) => bytes.length + 1
  | .lit _ => 1
  | .nil => 1
  | .ptr d => uptoBulk d + 1
  | .slice elems spare => uptoBulkAll elems + uptoBulkAll spare + 1
  | .agg parts => uptoBulkAll parts + 1
  | .iface _ d => uptoBulk d + 1
  | .map entries => uptoBulkEntries entries + 1
  | .held _ => 1
def uptoBulkAll {H : Type} : List (DataW H) → Nat
  | [] => 0
  | d :: r => uptoBulk d + uptoBulkAll r
def uptoBulkEntries {H : Type} : List (Lit × DataW H) → Nat
  | [] => 0
  | x :: r => uptoBulkEntry x + uptoBulkEntries r
def uptoBulkEntry {H : Type} : Lit × DataW H → Nat
  | (.string bytes, d) => bytes.length + uptoBulk d + 1
  | (_, d) => uptoBulk d + 1
 end
def uptoSmall : (H : Type) → List (DataW H) → Bool := fun _ ds => decide (uptoBulkAll ds ≤ 1048576)
def OpenSpec.upto (s : _root_.Go.ChangeSpec) : _root_.Go.OpenSpec := { _root_.Go.OpenSpec.ofChange s with cond := some uptoSmall }

/-- 'wagonerlaw13.TrimPlays', WHERE WHAT IT READS IS OF BULK AT MOST 1048576: true; the input reads as it did. -/
def trimPlaysUptoRow : OpenClaim := { program := "ytfalabebadoaiaagreat", sum := "73b2e28cfafd9a8e385cff0e3d4031c499c50199734fa9ebede1e3d1845ca170", func := "wagoner/wagonerlaw13.TrimPlays", spec := "trimPlays", inPlace := ["slices.overlaps[wagoner/api.Pair]", "slices.overlaps[wagoner/api.File]"], unfollowed := true, recurses := true, apart := false, narrowed := true }
def TrimPlaysUptoSaid : Prop := trimPlaysUptoRow.holds Tryz.pinned (OpenSpec.upto trimPlaysSpec)

/-- 'wagonerlaw13.TrimStates', WHERE WHAT IT READS IS OF BULK AT MOST 1048576: true; the input reads as it did. -/
def trimStatesUptoRow : OpenClaim := { program := "ytfalabebadoaiaagreat", sum := "73b2e28cfafd9a8e385cff0e3d4031c499c50199734fa9ebede1e3d1845ca170", func := "wagoner/wagonerlaw13.TrimStates", spec := "trimStates", inPlace := ["slices.overlaps[wagoner/api.Pair]", "slices.overlaps[wagoner/api.File]"], unfollowed := true, recurses := true, apart := false, narrowed := true }
def TrimStatesUptoSaid : Prop := trimStatesUptoRow.holds Tryz.pinned (OpenSpec.upto trimStatesSpec)

/-- 'wagonerlaw13.TrimKeeps', WHERE WHAT IT READS IS OF BULK AT MOST 1048576: true; the input reads as it did. -/
def trimKeepsUptoRow : OpenClaim := { program := "ytfalabebadoaiaagreat", sum := "73b2e28cfafd9a8e385cff0e3d4031c499c50199734fa9ebede1e3d1845ca170", func := "wagoner/wagonerlaw13.TrimKeeps", spec := "trimKeeps", inPlace := ["slices.overlaps[wagoner/api.Pair]", "slices.overlaps[wagoner/api.File]"], unfollowed := true, recurses := true, apart := false, narrowed := true }
def TrimKeepsUptoSaid : Prop := trimKeepsUptoRow.holds Tryz.pinned (OpenSpec.upto trimKeepsSpec)

/-- 'wagonerlaw13.TrimFold', WHERE WHAT IT READS IS OF BULK AT MOST 1048576: true; the input reads as it did. -/
def trimFoldUptoRow : OpenClaim := { program := "ytfalabebadoaiaagreat", sum := "73b2e28cfafd9a8e385cff0e3d4031c499c50199734fa9ebede1e3d1845ca170", func := "wagoner/wagonerlaw13.TrimFold", spec := "trimFold", inPlace := ["slices.overlaps[wagoner/api.Pair]", "slices.overlaps[wagoner/api.File]"], unfollowed := true, recurses := true, apart := false, narrowed := true }
def TrimFoldUptoSaid : Prop := trimFoldUptoRow.holds Tryz.pinned (OpenSpec.upto trimFoldSpec)

end Rows
end Go.Proofs.YtfalabebadoaiaaGreat
