/-
  No cell of these rows narrows 'for every input' (looked for: loops, veiled, ifaces, maps, wideKeys, modest, calm, conditions, laid).
  DERIVED. THE GIVEN ROWS OF THIS SEAT. 3 by the template 'for every input the law returns true; each argument reads behind the call as it read before'; 0 by the template 'total and deterministic' (their statements: YtgoifbjgmgbihaaGreatTotals.lean).
  GIVEN WITH THE SEED: the statements are not yours to turn. If you find one false, say at which input.
  Laid BY PROGRAM, IN A SANDBOX (cutbox-rows.mjs): the forced cells as the released guide's own fill.sh prints them over the translation 14fd571bcf026260… (all of the seat's roots in one cut). By AI agents, Wed Nov 11 2026. No macro, syntax, notation, axiom, sorry.
-/
import Derived.Test.YtgoifbjgmgbihaaGreatChecked
import GoSem.Claim
import GoSem.ClaimJoined
import GoSem.ClaimMapViews
import Derived.JoinedTies
import Derived.KernelRfl
namespace Go.Proofs.YtgoifbjgmgbihaaGreat
/- THE CELL 'sum', in the pinned program and in every row, IS THE sha256 OF THE DUMP (.gsa) THAT YtgoifbjgmgbihaaGreatProg.lean LOADS. Nothing in Lean hashes anything: it is a label: what it is worth is what the hold of that sum in a sandbox is worth. -/
noncomputable def Tryz.pinned : Pinned := { name := "ytgoifbjgmgbihaagreat", sum := "14fd571bcf0262609fd343f5160ae042641fb58d04eb12e34cb0facbd4d77ada", checked := Tryz.checked }
namespace Rows
def none {H : Type} : Left H := { results := [], args := [] }

/-- 'wagonerlaw23.FollowerCuts': WHATEVER THE INPUT: true; the input reads as it did. -/
def followerCutsSpec : ChangeSpec := { name := "followerCuts", fn := fun _ => fun
  | [d1, d2] => { results := [.lit (.bool true)], args := [d1, d2] }
  | _ => none }
def followerCutsRow : OpenClaim := { program := "ytgoifbjgmgbihaagreat", sum := "14fd571bcf0262609fd343f5160ae042641fb58d04eb12e34cb0facbd4d77ada", func := "wagoner/wagonerlaw23.FollowerCuts", spec := "followerCuts", inPlace := ["slices.overlaps[[]wagoner/api.Rec]", "slices.overlaps[wagoner/api.File]", "slices.overlaps[wagoner/api.Pair]"], unfollowed := true, recurses := true, apart := false }
def FollowerCutsSaid : Prop := followerCutsRow.holds Tryz.pinned (OpenSpec.ofChange followerCutsSpec)

/-- ITS FALSE NEIGHBOUR: 'it returns false'. Refute it at one input. -/
def followerCutsWrong : ChangeSpec := { name := "followerCuts", fn := fun _ => fun
  | [d1, d2] => { results := [.lit (.bool false)], args := [d1, d2] }
  | _ => none }
def FollowerCutsWrongFalsely : Prop := followerCutsRow.holds Tryz.pinned (OpenSpec.ofChange followerCutsWrong)

/-- 'wagonerlaw23.FollowerCrash': WHATEVER THE INPUT: true; the input reads as it did. -/
def followerCrashSpec : ChangeSpec := { name := "followerCrash", fn := fun _ => fun
  | [d1, d2, d3] => { results := [.lit (.bool true)], args := [d1, d2, d3] }
  | _ => none }
def followerCrashRow : OpenClaim := { program := "ytgoifbjgmgbihaagreat", sum := "14fd571bcf0262609fd343f5160ae042641fb58d04eb12e34cb0facbd4d77ada", func := "wagoner/wagonerlaw23.FollowerCrash", spec := "followerCrash", inPlace := ["slices.overlaps[[]wagoner/api.Rec]", "slices.overlaps[wagoner/api.File]", "slices.overlaps[wagoner/api.Pair]"], unfollowed := true, recurses := true, apart := false }
def FollowerCrashSaid : Prop := followerCrashRow.holds Tryz.pinned (OpenSpec.ofChange followerCrashSpec)

/-- ITS FALSE NEIGHBOUR: 'it returns false'. Refute it at one input. -/
def followerCrashWrong : ChangeSpec := { name := "followerCrash", fn := fun _ => fun
  | [d1, d2, d3] => { results := [.lit (.bool false)], args := [d1, d2, d3] }
  | _ => none }
def FollowerCrashWrongFalsely : Prop := followerCrashRow.holds Tryz.pinned (OpenSpec.ofChange followerCrashWrong)

/-- 'wagonerlaw23.FollowerLog': WHATEVER THE INPUT: true; the input reads as it did. -/
def followerLogSpec : ChangeSpec := { name := "followerLog", fn := fun _ => fun
  | [d] => { results := [.lit (.bool true)], args := [d] }
  | _ => none }
def followerLogRow : OpenClaim := { program := "ytgoifbjgmgbihaagreat", sum := "14fd571bcf0262609fd343f5160ae042641fb58d04eb12e34cb0facbd4d77ada", func := "wagoner/wagonerlaw23.FollowerLog", spec := "followerLog", inPlace := ["slices.overlaps[[]wagoner/api.Rec]", "slices.overlaps[wagoner/api.File]", "slices.overlaps[wagoner/api.Pair]"], unfollowed := true, recurses := true, apart := false }
def FollowerLogSaid : Prop := followerLogRow.holds Tryz.pinned (OpenSpec.ofChange followerLogSpec)

/-- ITS FALSE NEIGHBOUR: 'it returns false'. Refute it at one input. -/
def followerLogWrong : ChangeSpec := { name := "followerLog", fn := fun _ => fun
  | [d] => { results := [.lit (.bool false)], args := [d] }
  | _ => none }
def FollowerLogWrongFalsely : Prop := followerLogRow.holds Tryz.pinned (OpenSpec.ofChange followerLogWrong)

/- THE SECOND FORM. 'bulk': how many values and letters a reading holds, each counted each time it is reached (what is shared counts as often as it is met; a slice's spare places count too). A statement '..UptoSaid' is the law's where the arguments, and the package variables that the reading takes, are together of bulk at most 1048576: NARROWER than '..Said'. Prove '..Said' where nothing that the law and all that it calls make is longer than what came in: it says more and counts as full. Else prove '..UptoSaid'. A law counts once. -/
mutual
def uptoBulk {H : Type} : DataW H → Nat
  | .lit (.string bytes) => bytes.length + 1
  | .lit _ => 1
  | .nil => 1
  | .ptr d => uptoBulk d + 1
  | .slice elems spare => uptoBulkAll elems + uptoBulkAll spare + 1
  | .agg parts => uptoBulkAll parts + 1
  | .iface _ d => uptoBulk d + 1
  | .map entries => uptoBulkEntries entries + 1
  | .held _ => 1
def uptoBulkAll {H : Type} : List (DataW H) → Nat
  | [] => 0
  | d :: r => uptoBulk d + uptoBulkAll r
def uptoBulkEntries {H : Type} : List (Lit × DataW H) → Nat
  | [] => 0
  | x :: r => uptoBulkEntry x + uptoBulkEntries r
def uptoBulkEntry {H : Type} : Lit × DataW H → Nat
  | (.string bytes, d) => bytes.length + uptoBulk d + 1
  | (_, d) => uptoBulk d + 1
 end
def uptoSmall : (H : Type) → List (DataW H) → Bool := fun _ ds => decide (uptoBulkAll ds ≤ 1048576)
def OpenSpec.upto (s : _root_.Go.ChangeSpec) : _root_.Go.OpenSpec := { _root_.Go.OpenSpec.ofChange s with cond := some uptoSmall }

/-- 'wagonerlaw23.FollowerCuts', WHERE WHAT IT READS IS OF BULK AT MOST 1048576: true; the input reads as it did. -/
def followerCutsUptoRow : OpenClaim := { program := "ytgoifbjgmgbihaagreat", sum := "14fd571bcf0262609fd343f5160ae042641fb58d04eb12e34cb0facbd4d77ada", func := "wagoner/wagonerlaw23.FollowerCuts", spec := "followerCuts", inPlace := ["slices.overlaps[[]wagoner/api.Rec]", "slices.overlaps[wagoner/api.File]", "slices.overlaps[wagoner/api.Pair]"], unfollowed := true, recurses := true, apart := false, narrowed := true }
def FollowerCutsUptoSaid : Prop := followerCutsUptoRow.holds Tryz.pinned (OpenSpec.upto followerCutsSpec)

/-- 'wagonerlaw23.FollowerCrash', WHERE WHAT IT READS IS OF BULK AT MOST 1048576: true; the input reads as it did. -/
def followerCrashUptoRow : OpenClaim := { program := "ytgoifbjgmgbihaagreat", sum := "14fd571bcf0262609fd343f5160ae042641fb58d04eb12e34cb0facbd4d77ada", func := "wagoner/wagonerlaw23.FollowerCrash", spec := "followerCrash", inPlace := ["slices.overlaps[[]wagoner/api.Rec]", "slices.overlaps[wagoner/api.File]", "slices.overlaps[wagoner/api.Pair]"], unfollowed := true, recurses := true, apart := false, narrowed := true }
def FollowerCrashUptoSaid : Prop := followerCrashUptoRow.holds Tryz.pinned (OpenSpec.upto followerCrashSpec)

/-- 'wagonerlaw23.FollowerLog', WHERE WHAT IT READS IS OF BULK AT MOST 1048576: true; the input reads as it did. -/
def followerLogUptoRow : OpenClaim := { program := "ytgoifbjgmgbihaagreat", sum := "14fd571bcf0262609fd343f5160ae042641fb58d04eb12e34cb0facbd4d77ada", func := "wagoner/wagonerlaw23.FollowerLog", spec := "followerLog", inPlace := ["slices.overlaps[[]wagoner/api.Rec]", "slices.overlaps[wagoner/api.File]", "slices.overlaps[wagoner/api.Pair]"], unfollowed := true, recurses := true, apart := false, narrowed := true }
def FollowerLogUptoSaid : Prop := followerLogUptoRow.holds Tryz.pinned (OpenSpec.upto followerLogSpec)

end Rows
end Go.Proofs.YtgoifbjgmgbihaaGreat
