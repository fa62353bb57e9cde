/- RecordRows answers true for every argument; no conditions beyond the row's own. -/
import Derived.Test.YtnkmkphdgebkgaaR50
import Derived.Test.YtnkmkphdgebkgaaRows
import Derived.ProofKit
set_option linter.unusedSimpArgs false
set_option linter.unusedVariables false
namespace Go.Proofs.Ytnkmkphdgebkgaa
open Go.Vi
open Go.ChangeShapes Go.WideShapes Go.ChangeAt Go.RowKit
theorem Try.own : ownKnob Try.prog.godebug = none := by kernel_rfl
theorem Try.laidOut : laidOutB Try.prog = true := by kernel_rfl
theorem good : Vi.Good Try.prog call := callU_good (fun φ hg => draw_ok (by kernel_rfl) hg) (progOf_made _ _) (clonePr_good (fun φ hg => draw_ok (by kernel_rfl) hg) clones clones_ok)
theorem recordRows_law (xs : List V) (h : wfArgs Try.prog 6 Try.f6.params.toList xs) : call 6 xs [] = some (.one (.d (.b true)), []) := recordRows_pure xs (tyAs_ok (al := [(false, [.l [.i .i64, .i .i64, .s]]), (false, [.s])]) (by kernel_rfl) h)
set_option maxRecDepth 100000 in
theorem recordRows_lifted (os : Os) (started : os.Started) (H : Type) (enc : TypeId × Value → H) :
    ReturnsInHanded {} Try.checked os 6 .any (Rows.recordRowsSpec.pre6 enc Try.prog Try.f6 Rows.recordRowsRow.domain false) (Rows.recordRowsSpec.post enc Try.prog Try.f6 false true false false) := by
  refine returnsInHanded_of_change (C := Try.checked) Try.own started (by kernel_rfl) Try.func6
    (ChangeSpec.witness6 (enc := enc) (C := Try.checked) false ⟨#[], #[.slice none 0 0, .string ⟨#[]⟩], []⟩ 8 (by kernel_rfl) (by kernel_rfl) (by kernel_rfl) (by kernel_rfl)) ?_
  intro W base args ds gs before hval hW hcnd _
  exact law_true good Try.laidOut (n := 6) (by kernel_rfl) (by kernel_rfl) (tb := 4) (by kernel_rfl) (by kernel_rfl) rfl (fun ds h => by
    match ds, h with
    | [d1, d2], _ => rfl) recordRows_law hval hW
theorem recordRows_holds : Rows.RecordRowsSaid :=
  OpenClaim.holds_of_wide 6 Try.f6 rfl rfl rfl rfl rfl rfl rfl ⟨rfl, rfl, rfl, rfl, rfl⟩ rfl rfl rfl rfl rfl (by kernel_rfl) Try.func6 (by kernel_rfl)
    (of_decide_eq_true (by kernel_rfl)) (by unfold Func.isWrapper; first | (rw [if_pos (by decide +kernel)]; kernel_rfl) | (rw [if_neg (by decide +kernel)]; exact ⟨rfl, rfl⟩))
    (fun os started H enc _ => recordRows_lifted os started H enc)
theorem recordBack_law (xs : List V) (h : wfArgs Try.prog 6 Try.f7.params.toList xs) : call 7 xs [] = some (.one (.d (.b true)), []) := recordBack_pure xs (tyAs_ok (al := [(false, [.l [.i .i64, .i .i64, .s]])]) (by kernel_rfl) h)
set_option maxRecDepth 100000 in
theorem recordBack_lifted (os : Os) (started : os.Started) (H : Type) (enc : TypeId × Value → H) :
    ReturnsInHanded {} Try.checked os 7 .any (Rows.recordBackSpec.pre6 enc Try.prog Try.f7 Rows.recordBackRow.domain false) (Rows.recordBackSpec.post enc Try.prog Try.f7 false true false false) := by
  refine returnsInHanded_of_change (C := Try.checked) Try.own started (by kernel_rfl) Try.func7
    (ChangeSpec.witness6 (enc := enc) (C := Try.checked) false ⟨#[], #[.slice none 0 0], []⟩ 8 (by kernel_rfl) (by kernel_rfl) (by kernel_rfl) (by kernel_rfl)) ?_
  intro W base args ds gs before hval hW hcnd _
  exact law_true good Try.laidOut (n := 6) (by kernel_rfl) (by kernel_rfl) (tb := 4) (by kernel_rfl) (by kernel_rfl) rfl (fun ds h => by
    match ds, h with
    | [d1], _ => rfl) recordBack_law hval hW
theorem recordBack_holds : Rows.RecordBackSaid :=
  OpenClaim.holds_of_wide 7 Try.f7 rfl rfl rfl rfl rfl rfl rfl ⟨rfl, rfl, rfl, rfl, rfl⟩ rfl rfl rfl rfl rfl (by kernel_rfl) Try.func7 (by kernel_rfl)
    (of_decide_eq_true (by kernel_rfl)) (by unfold Func.isWrapper; first | (rw [if_pos (by decide +kernel)]; kernel_rfl) | (rw [if_neg (by decide +kernel)]; exact ⟨rfl, rfl⟩))
    (fun os started H enc _ => recordBack_lifted os started H enc)
end Go.Proofs.Ytnkmkphdgebkgaa
