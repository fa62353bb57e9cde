/- FrameAll answers true for every text; no conditions beyond the row's own. -/
import Derived.Test.YtgcamaneelgejaaF10
import Derived.Test.YtgcamaneelgejaaRows
import Derived.ProofKit
set_option linter.unusedSimpArgs false
set_option linter.unusedVariables false
namespace Go.Proofs.Ytgcamaneelgejaa
open Go.Vi
open Go.ChangeShapes Go.WideShapes Go.ChangeAt Go.RowKit
theorem Try.own : ownKnob Try.prog.godebug = none := by kernel_rfl
theorem Try.laidOut : laidOutB Try.prog = true := by kernel_rfl
theorem good : Vi.Good Try.prog call := callU_good (fun φ hg => draw_ok (by kernel_rfl) hg) (progOf_made _ _) (clonePr_good (fun φ hg => draw_ok (by kernel_rfl) hg) clones clones_ok)
theorem frameTells_law (xs : List V) (h : wfArgs Try.prog 6 Try.f3.params.toList xs) : call 3 xs [] = some (.one (.d (.b true)), []) := frameTells_pure xs (tyAs_ok (al := [(false, [.s]), (false, [.s]), (false, [.i .i64])]) (by kernel_rfl) h)
set_option maxRecDepth 100000 in
theorem frameTells_lifted (os : Os) (started : os.Started) (H : Type) (enc : TypeId × Value → H) :
    ReturnsInHanded {} Try.checked os 3 .any (Rows.frameTellsSpec.pre6 enc Try.prog Try.f3 Rows.frameTellsRow.domain false) (Rows.frameTellsSpec.post enc Try.prog Try.f3 false true false false) := by
  refine returnsInHanded_of_change (C := Try.checked) Try.own started (by kernel_rfl) Try.func3
    (ChangeSpec.witness6 (enc := enc) (C := Try.checked) false ⟨#[], #[.string ⟨#[]⟩, .string ⟨#[]⟩, .int .i64 0], []⟩ 8 (by kernel_rfl) (by kernel_rfl) (by kernel_rfl) (by kernel_rfl)) ?_
  intro W base args ds gs before hval hW hcnd _
  exact law_true good Try.laidOut (n := 6) (by kernel_rfl) (by kernel_rfl) (tb := 4) (by kernel_rfl) (by kernel_rfl) rfl (fun ds h => by
    match ds, h with
    | [d1, d2, d3], _ => rfl) frameTells_law hval hW
theorem frameTells_holds : Rows.FrameTellsSaid :=
  OpenClaim.holds_of_wide 3 Try.f3 rfl rfl rfl rfl rfl rfl rfl ⟨rfl, rfl, rfl, rfl, rfl⟩ rfl rfl rfl rfl rfl (by kernel_rfl) Try.func3 (by kernel_rfl)
    (of_decide_eq_true (by kernel_rfl)) (by unfold Func.isWrapper; first | (rw [if_pos (by decide +kernel)]; kernel_rfl) | (rw [if_neg (by decide +kernel)]; exact ⟨rfl, rfl⟩))
    (fun os started H enc _ => frameTells_lifted os started H enc)
theorem frameAll_law (xs : List V) (h : wfArgs Try.prog 6 Try.f5.params.toList xs) : call 5 xs [] = some (.one (.d (.b true)), []) := frameAll_pure xs (tyAs_ok (al := [(false, [.s])]) (by kernel_rfl) h)
set_option maxRecDepth 100000 in
theorem frameAll_lifted (os : Os) (started : os.Started) (H : Type) (enc : TypeId × Value → H) :
    ReturnsInHanded {} Try.checked os 5 .any (Rows.frameAllSpec.pre6 enc Try.prog Try.f5 Rows.frameAllRow.domain false) (Rows.frameAllSpec.post enc Try.prog Try.f5 false true false false) := by
  refine returnsInHanded_of_change (C := Try.checked) Try.own started (by kernel_rfl) Try.func5
    (ChangeSpec.witness6 (enc := enc) (C := Try.checked) false ⟨#[], #[.string ⟨#[]⟩], []⟩ 8 (by kernel_rfl) (by kernel_rfl) (by kernel_rfl) (by kernel_rfl)) ?_
  intro W base args ds gs before hval hW hcnd _
  exact law_true good Try.laidOut (n := 6) (by kernel_rfl) (by kernel_rfl) (tb := 4) (by kernel_rfl) (by kernel_rfl) rfl (fun ds h => by
    match ds, h with
    | [d1], _ => rfl) frameAll_law hval hW
theorem frameAll_holds : Rows.FrameAllSaid :=
  OpenClaim.holds_of_wide 5 Try.f5 rfl rfl rfl rfl rfl rfl rfl ⟨rfl, rfl, rfl, rfl, rfl⟩ rfl rfl rfl rfl rfl (by kernel_rfl) Try.func5 (by kernel_rfl)
    (of_decide_eq_true (by kernel_rfl)) (by unfold Func.isWrapper; first | (rw [if_pos (by decide +kernel)]; kernel_rfl) | (rw [if_neg (by decide +kernel)]; exact ⟨rfl, rfl⟩))
    (fun os started H enc _ => frameAll_lifted os started H enc)
end Go.Proofs.Ytgcamaneelgejaa
