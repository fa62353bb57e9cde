/-
  No cell of these rows narrows 'for every input' (looked for: loops, veiled, ifaces, maps, wideKeys, modest, calm, conditions, laid).
  DERIVED. THE GIVEN ROWS OF THIS SEAT. 4 by the template 'for every input the law returns true; each argument reads behind the call as it read before'; 0 by the template 'total and deterministic' (their statements: YthijgiinafanfaaTotals.lean).
  GIVEN WITH THE SEED: the statements are not yours to turn. If you find one false, say at which input.
  Laid BY PROGRAM, IN A SANDBOX (cutbox-rows.mjs): the forced cells as the released guide's own fill.sh prints them over the translation 7d46ee51120433f9… (all of the seat's roots in one cut). By AI agents, Wed Nov 11 2026. No macro, syntax, notation, axiom, sorry.
-/
import Derived.Test.YthijgiinafanfaaChecked
import GoSem.Claim
import GoSem.ClaimJoined
import GoSem.ClaimMapViews
import Derived.JoinedTies
import Derived.KernelRfl
namespace Go.Proofs.Ythijgiinafanfaa
/- THE CELL 'sum', in the pinned program and in every row, IS THE sha256 OF THE DUMP (.gsa) THAT YthijgiinafanfaaProg.lean LOADS. Nothing in Lean hashes anything: it is a label: what it is worth is what the hold of that sum in a sandbox is worth. -/
noncomputable def Try.pinned : Pinned := { name := "ythijgiinafanfaa", sum := "7d46ee51120433f9efd63d48a59a64540666c344191a7a554ee4fe8609946aeb", checked := Try.checked }
namespace Rows
def none {H : Type} : Left H := { results := [], args := [] }

/-- 'wagonerlaw09.SegmentScans': WHATEVER THE INPUT: true; the input reads as it did. -/
def segmentScansSpec : ChangeSpec := { name := "segmentScans", fn := fun _ => fun
  | [d1, d2, d3] => { results := [.lit (.bool true)], args := [d1, d2, d3] }
  | _ => none }
def segmentScansRow : OpenClaim := { program := "ythijgiinafanfaa", sum := "7d46ee51120433f9efd63d48a59a64540666c344191a7a554ee4fe8609946aeb", func := "wagoner/wagonerlaw09.SegmentScans", spec := "segmentScans", unfollowed := true, recurses := true, apart := false }
def SegmentScansSaid : Prop := segmentScansRow.holds Try.pinned (OpenSpec.ofChange segmentScansSpec)

/-- ITS FALSE NEIGHBOUR: 'it returns false'. Refute it at one input. -/
def segmentScansWrong : ChangeSpec := { name := "segmentScans", fn := fun _ => fun
  | [d1, d2, d3] => { results := [.lit (.bool false)], args := [d1, d2, d3] }
  | _ => none }
def SegmentScansWrongFalsely : Prop := segmentScansRow.holds Try.pinned (OpenSpec.ofChange segmentScansWrong)

/-- 'wagonerlaw09.SegmentReads': WHATEVER THE INPUT: true; the input reads as it did. -/
def segmentReadsSpec : ChangeSpec := { name := "segmentReads", fn := fun _ => fun
  | [d] => { results := [.lit (.bool true)], args := [d] }
  | _ => none }
def segmentReadsRow : OpenClaim := { program := "ythijgiinafanfaa", sum := "7d46ee51120433f9efd63d48a59a64540666c344191a7a554ee4fe8609946aeb", func := "wagoner/wagonerlaw09.SegmentReads", spec := "segmentReads", unfollowed := true, recurses := true, apart := false }
def SegmentReadsSaid : Prop := segmentReadsRow.holds Try.pinned (OpenSpec.ofChange segmentReadsSpec)

/-- ITS FALSE NEIGHBOUR: 'it returns false'. Refute it at one input. -/
def segmentReadsWrong : ChangeSpec := { name := "segmentReads", fn := fun _ => fun
  | [d] => { results := [.lit (.bool false)], args := [d] }
  | _ => none }
def SegmentReadsWrongFalsely : Prop := segmentReadsRow.holds Try.pinned (OpenSpec.ofChange segmentReadsWrong)

/-- 'wagonerlaw09.SegmentCut': WHATEVER THE INPUT: true; the input reads as it did. -/
def segmentCutSpec : ChangeSpec := { name := "segmentCut", fn := fun _ => fun
  | [d1, d2, d3] => { results := [.lit (.bool true)], args := [d1, d2, d3] }
  | _ => none }
def segmentCutRow : OpenClaim := { program := "ythijgiinafanfaa", sum := "7d46ee51120433f9efd63d48a59a64540666c344191a7a554ee4fe8609946aeb", func := "wagoner/wagonerlaw09.SegmentCut", spec := "segmentCut", unfollowed := true, recurses := true, apart := false }
def SegmentCutSaid : Prop := segmentCutRow.holds Try.pinned (OpenSpec.ofChange segmentCutSpec)

/-- ITS FALSE NEIGHBOUR: 'it returns false'. Refute it at one input. -/
def segmentCutWrong : ChangeSpec := { name := "segmentCut", fn := fun _ => fun
  | [d1, d2, d3] => { results := [.lit (.bool false)], args := [d1, d2, d3] }
  | _ => none }
def SegmentCutWrongFalsely : Prop := segmentCutRow.holds Try.pinned (OpenSpec.ofChange segmentCutWrong)

/-- 'wagonerlaw09.SegmentFinds': WHATEVER THE INPUT: true; the input reads as it did. -/
def segmentFindsSpec : ChangeSpec := { name := "segmentFinds", fn := fun _ => fun
  | [d1, d2, d3] => { results := [.lit (.bool true)], args := [d1, d2, d3] }
  | _ => none }
def segmentFindsRow : OpenClaim := { program := "ythijgiinafanfaa", sum := "7d46ee51120433f9efd63d48a59a64540666c344191a7a554ee4fe8609946aeb", func := "wagoner/wagonerlaw09.SegmentFinds", spec := "segmentFinds", unfollowed := true, recurses := true, apart := false }
def SegmentFindsSaid : Prop := segmentFindsRow.holds Try.pinned (OpenSpec.ofChange segmentFindsSpec)

/-- ITS FALSE NEIGHBOUR: 'it returns false'. Refute it at one input. -/
def segmentFindsWrong : ChangeSpec := { name := "segmentFinds", fn := fun _ => fun
  | [d1, d2, d3] => { results := [.lit (.bool false)], args := [d1, d2, d3] }
  | _ => none }
def SegmentFindsWrongFalsely : Prop := segmentFindsRow.holds Try.pinned (OpenSpec.ofChange segmentFindsWrong)

/- THE SECOND FORM. 'bulk': how many values and letters a reading holds, each counted each time it is reached (what is shared counts as often as it is met; a slice's spare places count too). A statement '..UptoSaid' is the law's where the arguments, and the package variables that the reading takes, are together of bulk at most 1048576: NARROWER than '..Said'. Prove '..Said' where nothing that the law and all that it calls make is longer than what came in: it says more and counts as full. Else prove '..UptoSaid'. A law counts once. -/
mutual
def uptoBulk {H : Type} : DataW H → Nat
  | .lit (.string bytes) => bytes.length + 1
  | .lit _ => 1
  | .nil => 1
  | .ptr d => uptoBulk d + 1
  | .slice elems spare => uptoBulkAll elems + uptoBulkAll spare + 1
  | .agg parts => uptoBulkAll parts + 1
  | .iface _ d => uptoBulk d + 1
  | .map entries => uptoBulkEntries entries + 1
  | .held _ => 1
def uptoBulkAll {H : Type} : List (DataW H) → Nat
  | [] => 0
  | d :: r => uptoBulk d + uptoBulkAll r
def uptoBulkEntries {H : Type} : List (Lit × DataW H) → Nat
  | [] => 0
  | x :: r => uptoBulkEntry x + uptoBulkEntries r
def uptoBulkEntry {H : Type} : Lit × DataW H → Nat
  | (.string bytes, d) => bytes.length + uptoBulk d + 1
  | (_, d) => uptoBulk d + 1
 end
def uptoSmall : (H : Type) → List (DataW H) → Bool := fun _ ds => decide (uptoBulkAll ds ≤ 1048576)
def OpenSpec.upto (s : _root_.Go.ChangeSpec) : _root_.Go.OpenSpec := { _root_.Go.OpenSpec.ofChange s with cond := some uptoSmall }

/-- 'wagonerlaw09.SegmentScans', WHERE WHAT IT READS IS OF BULK AT MOST 1048576: true; the input reads as it did. -/
def segmentScansUptoRow : OpenClaim := { program := "ythijgiinafanfaa", sum := "7d46ee51120433f9efd63d48a59a64540666c344191a7a554ee4fe8609946aeb", func := "wagoner/wagonerlaw09.SegmentScans", spec := "segmentScans", unfollowed := true, recurses := true, apart := false, narrowed := true }
def SegmentScansUptoSaid : Prop := segmentScansUptoRow.holds Try.pinned (OpenSpec.upto segmentScansSpec)

/-- 'wagonerlaw09.SegmentReads', WHERE WHAT IT READS IS OF BULK AT MOST 1048576: true; the input reads as it did. -/
def segmentReadsUptoRow : OpenClaim := { program := "ythijgiinafanfaa", sum := "7d46ee51120433f9efd63d48a59a64540666c344191a7a554ee4fe8609946aeb", func := "wagoner/wagonerlaw09.SegmentReads", spec := "segmentReads", unfollowed := true, recurses := true, apart := false, narrowed := true }
def SegmentReadsUptoSaid : Prop := segmentReadsUptoRow.holds Try.pinned (OpenSpec.upto segmentReadsSpec)

/-- 'wagonerlaw09.SegmentCut', WHERE WHAT IT READS IS OF BULK AT MOST 1048576: true; the input reads as it did. -/
def segmentCutUptoRow : OpenClaim := { program := "ythijgiinafanfaa", sum := "7d46ee51120433f9efd63d48a59a64540666c344191a7a554ee4fe8609946aeb", func := "wagoner/wagonerlaw09.SegmentCut", spec := "segmentCut", unfollowed := true, recurses := true, apart := false, narrowed := true }
def SegmentCutUptoSaid : Prop := segmentCutUptoRow.holds Try.pinned (OpenSpec.upto segmentCutSpec)

/-- 'wagonerlaw09.SegmentFinds', WHERE WHAT IT READS IS OF BULK AT MOST 1048576: true; the input reads as it did. -/
def segmentFindsUptoRow : OpenClaim := { program := "ythijgiinafanfaa", sum := "7d46ee51120433f9efd63d48a59a64540666c344191a7a554ee4fe8609946aeb", func := "wagoner/wagonerlaw09.SegmentFinds", spec := "segmentFinds", unfollowed := true, recurses := true, apart := false, narrowed := true }
def SegmentFindsUptoSaid : Prop := segmentFindsUptoRow.holds Try.pinned (OpenSpec.upto segmentFindsSpec)

end Rows
end Go.Proofs.Ythijgiinafanfaa
