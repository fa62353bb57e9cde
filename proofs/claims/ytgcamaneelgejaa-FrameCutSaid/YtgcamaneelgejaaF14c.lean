/- FrameCut: the law answers true for every argument; no conditions beyond the row's own. -/
import Derived.Test.YtgcamaneelgejaaF14
import Derived.Test.YtgcamaneelgejaaRows
import Derived.ProofKit
set_option linter.unusedSimpArgs false
set_option linter.unusedVariables false
namespace Go.Proofs.Ytgcamaneelgejaa
open Go.Vi
open Go.ChangeShapes Go.WideShapes Go.ChangeAt Go.RowKit
theorem Try.own : ownKnob Try.prog.godebug = none := by kernel_rfl
theorem Try.laidOut : laidOutB Try.prog = true := by kernel_rfl
theorem good : Vi.Good Try.prog call := callU_good (fun φ hg => draw_ok (by kernel_rfl) hg) (progOf_made _ _) (clonePr_good (fun φ hg => draw_ok (by kernel_rfl) hg) clones clones_ok)
theorem frameTurned_law (xs : List V) (h : wfArgs Try.prog 6 Try.f4.params.toList xs) : call 4 xs [] = some (.one (.d (.b true)), []) := frameTurned_pure xs (tyAs_ok (al := [(false, [.s]), (false, [.i .u16]), (false, [.i .u8])]) (by kernel_rfl) h)
set_option maxRecDepth 100000 in
theorem frameTurned_lifted (os : Os) (started : os.Started) (H : Type) (enc : TypeId × Value → H) :
    ReturnsInHanded {} Try.checked os 4 .any (Rows.frameTurnedSpec.pre6 enc Try.prog Try.f4 Rows.frameTurnedRow.domain false) (Rows.frameTurnedSpec.post enc Try.prog Try.f4 false true false false) := by
  refine returnsInHanded_of_change (C := Try.checked) Try.own started (by kernel_rfl) Try.func4
    (ChangeSpec.witness6 (enc := enc) (C := Try.checked) false ⟨#[], #[.string ⟨#[]⟩, .int .u16 0, .int .u8 0], []⟩ 8 (by kernel_rfl) (by kernel_rfl) (by kernel_rfl) (by kernel_rfl)) ?_
  intro W base args ds gs before hval hW hcnd _
  exact law_true good Try.laidOut (n := 6) (by kernel_rfl) (by kernel_rfl) (tb := 4) (by kernel_rfl) (by kernel_rfl) rfl (fun ds h => by
    match ds, h with
    | [d1, d2, d3], _ => rfl) frameTurned_law hval hW
theorem frameTurned_holds : Rows.FrameTurnedSaid :=
  OpenClaim.holds_of_wide 4 Try.f4 rfl rfl rfl rfl rfl rfl rfl ⟨rfl, rfl, rfl, rfl, rfl⟩ rfl rfl rfl rfl rfl (by kernel_rfl) Try.func4 (by kernel_rfl)
    (of_decide_eq_true (by kernel_rfl)) (by unfold Func.isWrapper; first | (rw [if_pos (by decide +kernel)]; kernel_rfl) | (rw [if_neg (by decide +kernel)]; exact ⟨rfl, rfl⟩))
    (fun os started H enc _ => frameTurned_lifted os started H enc)
theorem frameBack_law (xs : List V) (h : wfArgs Try.prog 6 Try.f6.params.toList xs) : call 6 xs [] = some (.one (.d (.b true)), []) := frameBack_pure xs (tyAs_ok (al := [(false, [.l [.s]])]) (by kernel_rfl) h)
set_option maxRecDepth 100000 in
theorem frameBack_lifted (os : Os) (started : os.Started) (H : Type) (enc : TypeId × Value → H) :
    ReturnsInHanded {} Try.checked os 6 .any (Rows.frameBackSpec.pre6 enc Try.prog Try.f6 Rows.frameBackRow.domain false) (Rows.frameBackSpec.post enc Try.prog Try.f6 false true false false) := by
  refine returnsInHanded_of_change (C := Try.checked) Try.own started (by kernel_rfl) Try.func6
    (ChangeSpec.witness6 (enc := enc) (C := Try.checked) false ⟨#[], #[.slice none 0 0], []⟩ 8 (by kernel_rfl) (by kernel_rfl) (by kernel_rfl) (by kernel_rfl)) ?_
  intro W base args ds gs before hval hW hcnd _
  exact law_true good Try.laidOut (n := 6) (by kernel_rfl) (by kernel_rfl) (tb := 4) (by kernel_rfl) (by kernel_rfl) rfl (fun ds h => by
    match ds, h with
    | [d1], _ => rfl) frameBack_law hval hW
theorem frameBack_holds : Rows.FrameBackSaid :=
  OpenClaim.holds_of_wide 6 Try.f6 rfl rfl rfl rfl rfl rfl rfl ⟨rfl, rfl, rfl, rfl, rfl⟩ rfl rfl rfl rfl rfl (by kernel_rfl) Try.func6 (by kernel_rfl)
    (of_decide_eq_true (by kernel_rfl)) (by unfold Func.isWrapper; first | (rw [if_pos (by decide +kernel)]; kernel_rfl) | (rw [if_neg (by decide +kernel)]; exact ⟨rfl, rfl⟩))
    (fun os started H enc _ => frameBack_lifted os started H enc)
theorem frameCut_law (xs : List V) (h : wfArgs Try.prog 6 Try.f7.params.toList xs) : call 7 xs [] = some (.one (.d (.b true)), []) := frameCut_pure xs (tyAs_ok (al := [(false, [.l [.s]]), (false, [.i .u16])]) (by kernel_rfl) h)
set_option maxRecDepth 100000 in
theorem frameCut_lifted (os : Os) (started : os.Started) (H : Type) (enc : TypeId × Value → H) :
    ReturnsInHanded {} Try.checked os 7 .any (Rows.frameCutSpec.pre6 enc Try.prog Try.f7 Rows.frameCutRow.domain false) (Rows.frameCutSpec.post enc Try.prog Try.f7 false true false false) := by
  refine returnsInHanded_of_change (C := Try.checked) Try.own started (by kernel_rfl) Try.func7
    (ChangeSpec.witness6 (enc := enc) (C := Try.checked) false ⟨#[], #[.slice none 0 0, .int .u16 0], []⟩ 8 (by kernel_rfl) (by kernel_rfl) (by kernel_rfl) (by kernel_rfl)) ?_
  intro W base args ds gs before hval hW hcnd _
  exact law_true good Try.laidOut (n := 6) (by kernel_rfl) (by kernel_rfl) (tb := 4) (by kernel_rfl) (by kernel_rfl) rfl (fun ds h => by
    match ds, h with
    | [d1, d2], _ => rfl) frameCut_law hval hW
theorem frameCut_holds : Rows.FrameCutSaid :=
  OpenClaim.holds_of_wide 7 Try.f7 rfl rfl rfl rfl rfl rfl rfl ⟨rfl, rfl, rfl, rfl, rfl⟩ rfl rfl rfl rfl rfl (by kernel_rfl) Try.func7 (by kernel_rfl)
    (of_decide_eq_true (by kernel_rfl)) (by unfold Func.isWrapper; first | (rw [if_pos (by decide +kernel)]; kernel_rfl) | (rw [if_neg (by decide +kernel)]; exact ⟨rfl, rfl⟩))
    (fun os started H enc _ => frameCut_lifted os started H enc)
end Go.Proofs.Ytgcamaneelgejaa
