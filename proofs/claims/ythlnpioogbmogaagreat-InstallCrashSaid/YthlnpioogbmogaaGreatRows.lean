/-
  No cell of these rows narrows 'for every input' (looked for: loops, veiled, ifaces, maps, wideKeys, modest, calm, conditions, laid).
  DERIVED. THE GIVEN ROWS OF THIS SEAT. 3 by the template 'for every input the law returns true; each argument reads behind the call as it read before'; 0 by the template 'total and deterministic' (their statements: YthlnpioogbmogaaGreatTotals.lean).
  GIVEN WITH THE SEED: the statements are not yours to turn. If you find one false, say at which input.
  Laid BY PROGRAM, IN A SANDBOX (cutbox-rows.mjs): the forced cells as the released guide's own fill.sh prints them over the translation cae94fbcd13b1ff9… (all of the seat's roots in one cut). By AI agents, Wed Nov 11 2026. No macro, syntax, notation, axiom, sorry.
-/
import Derived.Test.YthlnpioogbmogaaGreatChecked
import GoSem.Claim
import GoSem.ClaimJoined
import GoSem.ClaimMapViews
import Derived.JoinedTies
import Derived.KernelRfl
namespace Go.Proofs.YthlnpioogbmogaaGreat
/- THE CELL 'sum', in the pinned program and in every row, IS THE sha256 OF THE DUMP (.gsa) THAT YthlnpioogbmogaaGreatProg.lean LOADS. Nothing in Lean hashes anything: it is a label: what it is worth is what the hold of that sum in a sandbox is worth. -/
noncomputable def Tryz.pinned : Pinned := { name := "ythlnpioogbmogaagreat", sum := "cae94fbcd13b1ff9a589d0fa43ad5d6747397cb8c504955375084da612c84285", checked := Tryz.checked }
namespace Rows
def none {H : Type} : Left H := { results := [], args := [] }

/-- 'wagonerlaw15.InstallPlays': WHATEVER THE INPUT: true; the input reads as it did. -/
def installPlaysSpec : ChangeSpec := { name := "installPlays", fn := fun _ => fun
  | [d] => { results := [.lit (.bool true)], args := [d] }
  | _ => none }
def installPlaysRow : OpenClaim := { program := "ythlnpioogbmogaagreat", sum := "cae94fbcd13b1ff9a589d0fa43ad5d6747397cb8c504955375084da612c84285", func := "wagoner/wagonerlaw15.InstallPlays", spec := "installPlays", inPlace := ["slices.overlaps[wagoner/api.File]"], unfollowed := true, recurses := true, apart := false }
def InstallPlaysSaid : Prop := installPlaysRow.holds Tryz.pinned (OpenSpec.ofChange installPlaysSpec)

/-- ITS FALSE NEIGHBOUR: 'it returns false'. Refute it at one input. -/
def installPlaysWrong : ChangeSpec := { name := "installPlays", fn := fun _ => fun
  | [d] => { results := [.lit (.bool false)], args := [d] }
  | _ => none }
def InstallPlaysWrongFalsely : Prop := installPlaysRow.holds Tryz.pinned (OpenSpec.ofChange installPlaysWrong)

/-- 'wagonerlaw15.InstallStates': WHATEVER THE INPUT: true; the input reads as it did. -/
def installStatesSpec : ChangeSpec := { name := "installStates", fn := fun _ => fun
  | [d1, d2] => { results := [.lit (.bool true)], args := [d1, d2] }
  | _ => none }
def installStatesRow : OpenClaim := { program := "ythlnpioogbmogaagreat", sum := "cae94fbcd13b1ff9a589d0fa43ad5d6747397cb8c504955375084da612c84285", func := "wagoner/wagonerlaw15.InstallStates", spec := "installStates", inPlace := ["slices.overlaps[wagoner/api.File]"], unfollowed := true, recurses := true, apart := false }
def InstallStatesSaid : Prop := installStatesRow.holds Tryz.pinned (OpenSpec.ofChange installStatesSpec)

/-- ITS FALSE NEIGHBOUR: 'it returns false'. Refute it at one input. -/
def installStatesWrong : ChangeSpec := { name := "installStates", fn := fun _ => fun
  | [d1, d2] => { results := [.lit (.bool false)], args := [d1, d2] }
  | _ => none }
def InstallStatesWrongFalsely : Prop := installStatesRow.holds Tryz.pinned (OpenSpec.ofChange installStatesWrong)

/-- 'wagonerlaw15.InstallCrash': WHATEVER THE INPUT: true; the input reads as it did. -/
def installCrashSpec : ChangeSpec := { name := "installCrash", fn := fun _ => fun
  | [d1, d2] => { results := [.lit (.bool true)], args := [d1, d2] }
  | _ => none }
def installCrashRow : OpenClaim := { program := "ythlnpioogbmogaagreat", sum := "cae94fbcd13b1ff9a589d0fa43ad5d6747397cb8c504955375084da612c84285", func := "wagoner/wagonerlaw15.InstallCrash", spec := "installCrash", inPlace := ["slices.overlaps[wagoner/api.File]"], unfollowed := true, recurses := true, apart := false }
def InstallCrashSaid : Prop := installCrashRow.holds Tryz.pinned (OpenSpec.ofChange installCrashSpec)

/-- ITS FALSE NEIGHBOUR: 'it returns false'. Refute it at one input. -/
def installCrashWrong : ChangeSpec := { name := "installCrash", fn := fun _ => fun
  | [d1, d2] => { results := [.lit (.bool false)], args := [d1, d2] }
  | _ => none }
def InstallCrashWrongFalsely : Prop := installCrashRow.holds Tryz.pinned (OpenSpec.ofChange installCrashWrong)

/- THE SECOND FORM. 'bulk': how many values and letters a reading holds, each counted each time it is reached (what is shared counts as often as it is met; a slice's spare places count too). A statement '..UptoSaid' is the law's where the arguments, and the package variables that the reading takes, are together of bulk at most 1048576: NARROWER than '..Said'. Prove '..Said' where nothing that the law and all that it calls make is longer than what came in: it says more and counts as full. Else prove '..UptoSaid'. A law counts once. -/
mutual
def uptoBulk {H : Type} : DataW H → Nat
  | .lit (.string bytes) => bytes.length + 1
  | .lit _ => 1
  | .nil => 1
  | .ptr d => uptoBulk d + 1
  | .slice elems spare => uptoBulkAll elems + uptoBulkAll spare + 1
  | .agg parts => uptoBulkAll parts + 1
  | .iface _ d => uptoBulk d + 1
  | .map entries => uptoBulkEntries entries + 1
  | .held _ => 1
def uptoBulkAll {H : Type} : List (DataW H) → Nat
  | [] => 0
  | d :: r => uptoBulk d + uptoBulkAll r
def uptoBulkEntries {H : Type} : List (Lit × DataW H) → Nat
  | [] => 0
  | x :: r => uptoBulkEntry x + uptoBulkEntries r
def uptoBulkEntry {H : Type} : Lit × DataW H → Nat
  | (.string bytes, d) => bytes.length + uptoBulk d + 1
  | (_, d) => uptoBulk d + 1
 end
def uptoSmall : (H : Type) → List (DataW H) → Bool := fun _ ds => decide (uptoBulkAll ds ≤ 1048576)
def OpenSpec.upto (s : _root_.Go.ChangeSpec) : _root_.Go.OpenSpec := { _root_.Go.OpenSpec.ofChange s with cond := some uptoSmall }

/-- 'wagonerlaw15.InstallPlays', WHERE WHAT IT READS IS OF BULK AT MOST 1048576: true; the input reads as it did. -/
def installPlaysUptoRow : OpenClaim := { program := "ythlnpioogbmogaagreat", sum := "cae94fbcd13b1ff9a589d0fa43ad5d6747397cb8c504955375084da612c84285", func := "wagoner/wagonerlaw15.InstallPlays", spec := "installPlays", inPlace := ["slices.overlaps[wagoner/api.File]"], unfollowed := true, recurses := true, apart := false, narrowed := true }
def InstallPlaysUptoSaid : Prop := installPlaysUptoRow.holds Tryz.pinned (OpenSpec.upto installPlaysSpec)

/-- 'wagonerlaw15.InstallStates', WHERE WHAT IT READS IS OF BULK AT MOST 1048576: true; the input reads as it did. -/
def installStatesUptoRow : OpenClaim := { program := "ythlnpioogbmogaagreat", sum := "cae94fbcd13b1ff9a589d0fa43ad5d6747397cb8c504955375084da612c84285", func := "wagoner/wagonerlaw15.InstallStates", spec := "installStates", inPlace := ["slices.overlaps[wagoner/api.File]"], unfollowed := true, recurses := true, apart := false, narrowed := true }
def InstallStatesUptoSaid : Prop := installStatesUptoRow.holds Tryz.pinned (OpenSpec.upto installStatesSpec)

/-- 'wagonerlaw15.InstallCrash', WHERE WHAT IT READS IS OF BULK AT MOST 1048576: true; the input reads as it did. -/
def installCrashUptoRow : OpenClaim := { program := "ythlnpioogbmogaagreat", sum := "cae94fbcd13b1ff9a589d0fa43ad5d6747397cb8c504955375084da612c84285", func := "wagoner/wagonerlaw15.InstallCrash", spec := "installCrash", inPlace := ["slices.overlaps[wagoner/api.File]"], unfollowed := true, recurses := true, apart := false, narrowed := true }
def InstallCrashUptoSaid : Prop := installCrashUptoRow.holds Tryz.pinned (OpenSpec.upto installCrashSpec)

end Rows
end Go.Proofs.YthlnpioogbmogaaGreat
