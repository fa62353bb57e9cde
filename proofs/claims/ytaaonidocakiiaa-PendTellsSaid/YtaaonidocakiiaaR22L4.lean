/- PendTells answers true for every queue, entry and numbers; no conditions beyond the row's own. -/
import Derived.Test.YtaaonidocakiiaaP22i
import Derived.Test.YtaaonidocakiiaaRows
import Derived.ProofKit
set_option linter.unusedSimpArgs false
set_option linter.unusedVariables false
namespace Go.Proofs.Ytaaonidocakiiaa
open Go.Vi
open Go.ChangeShapes Go.WideShapes Go.ChangeAt Go.RowKit
theorem Try.own : ownKnob Try.prog.godebug = none := by kernel_rfl
theorem Try.laidOut : laidOutB Try.prog = true := by kernel_rfl
theorem good : Vi.Good Try.prog call := callU_good (fun φ hg => draw_ok (by kernel_rfl) hg) (progOf_made _ _) (clonePr_good (fun φ hg => draw_ok (by kernel_rfl) hg) clones clones_ok)
theorem pendTells_law (xs : List V) (h : wfArgs Try.prog 6 Try.f4.params.toList xs) : call 4 xs [] = some (.one (.d (.b true)), []) := pendTells_pure xs (tyAs_ok (al := [(false, [.l [.i .i64, .s, .i .i64]]), (true, [.i .i64, .s, .i .i64]), (true, [.i .i64, .i .i64, .i .i64])]) (by kernel_rfl) h)
set_option maxRecDepth 100000 in
theorem pendTells_lifted (os : Os) (started : os.Started) (H : Type) (enc : TypeId × Value → H) :
    ReturnsInHanded {} Try.checked os 4 .any (Rows.pendTellsSpec.pre6 enc Try.prog Try.f4 Rows.pendTellsRow.domain false) (Rows.pendTellsSpec.post enc Try.prog Try.f4 false true false false) := by
  refine returnsInHanded_of_change (C := Try.checked) Try.own started (by kernel_rfl) Try.func4
    (ChangeSpec.witness6 (enc := enc) (C := Try.checked) false ⟨#[], #[.slice none 0 0, .agg #[.int .i64 0, .string ⟨#[]⟩, .int .i64 0], .agg #[.int .i64 0, .int .i64 0, .int .i64 0]], []⟩ 8 (by kernel_rfl) (by kernel_rfl) (by kernel_rfl) (by kernel_rfl)) ?_
  intro W base args ds gs before hval hW hcnd _
  exact law_true good Try.laidOut (n := 6) (by kernel_rfl) (by kernel_rfl) (tb := 4) (by kernel_rfl) (by kernel_rfl) rfl (fun ds h => by
    match ds, h with
    | [d1, d2, d3], _ => rfl) pendTells_law hval hW
theorem pendTells_holds : Rows.PendTellsSaid :=
  OpenClaim.holds_of_wide 4 Try.f4 rfl rfl rfl rfl rfl rfl rfl ⟨rfl, rfl, rfl, rfl, rfl⟩ rfl rfl rfl rfl rfl (by kernel_rfl) Try.func4 (by kernel_rfl)
    (of_decide_eq_true (by kernel_rfl)) (by unfold Func.isWrapper; first | (rw [if_pos (by decide +kernel)]; kernel_rfl) | (rw [if_neg (by decide +kernel)]; exact ⟨rfl, rfl⟩))
    (fun os started H enc _ => pendTells_lifted os started H enc)
end Go.Proofs.Ytaaonidocakiiaa
