/- ReopenTells answers true for every input;no conditions beyond the row's own. -/
import Derived.Test.YtghfhomfppbooaaGreatXZ14TabLib
import Derived.Test.YtghfhomfppbooaaGreatT09
import Derived.Test.YtghfhomfppbooaaGreatRows
import Derived.ProofKit
set_option linter.unusedSimpArgs false
set_option linter.unusedVariables false
namespace Go.Proofs.YtghfhomfppbooaaGreat
open Go.Vi
open Go.ChangeShapes Go.WideShapes Go.ChangeAt Go.RowKit
theorem Tryz.own:ownKnob Tryz.prog.godebug=none:=by kernel_rfl
theorem Tryz.laidOut:laidOutB Tryz.prog=true:=by kernel_rfl
theorem good:Vi.Good Tryz.prog call:=callU_good (fun φ hg=>draw_ok (by kernel_rfl) hg) (progOf_made _ _) (libPr_good (fun φ hg=>draw_ok (by kernel_rfl) hg) lib lib_ok)
theorem reopenTells_law (xs:List V) (h:wfArgs Tryz.prog 6 Tryz.f3.params.toList xs):call 3 xs []=some (.one (.d (.b true)),[]):=reopenTells_pure xs (tyAs_ok (al:=[(true,[.l [.s,.s,.i .i64],.i .i64,.b,.i .i64,.b])]) (by kernel_rfl) h)
set_option maxRecDepth 100000 in
theorem reopenTells_lifted (os:Os) (started:os.Started) (H:Type) (enc:TypeId × Value->H) :
  ReturnsInHanded {} Tryz.checked os 3 .any (Rows.reopenTellsSpec.pre6 enc Tryz.prog Tryz.f3 Rows.reopenTellsRow.domain false) (Rows.reopenTellsSpec.post enc Tryz.prog Tryz.f3 false true false false):=by
 refine returnsInHanded_of_change (C:=Tryz.checked) Tryz.own started (by kernel_rfl) Tryz.func3
  (ChangeSpec.witness6 (enc:=enc) (C:=Tryz.checked) false ⟨#[],#[.agg #[.slice none 0 0,.int .i64 0,.bool false,.int .i64 0,.bool false]],[]⟩ 8 (by kernel_rfl) (by kernel_rfl) (by kernel_rfl) (by kernel_rfl)) ?_
 intro W base args ds gs before hval hW hcnd _;exact law_true good Tryz.laidOut (n:=6) (by kernel_rfl) (by kernel_rfl) (tb:=4) (by kernel_rfl) (by kernel_rfl) rfl (fun ds h=>by
  match ds,h with
  | [d1],_=>rfl) reopenTells_law hval hW
theorem reopenTells_holds:Rows.ReopenTellsSaid :=
 OpenClaim.holds_of_wide 3 Tryz.f3 rfl rfl rfl rfl rfl rfl rfl ⟨rfl,rfl,rfl,rfl,rfl⟩ rfl rfl rfl rfl rfl (by kernel_rfl) Tryz.func3 (by kernel_rfl)
  (of_decide_eq_true (by kernel_rfl)) (by unfold Func.isWrapper;first|(rw[if_pos (by decide +kernel)];kernel_rfl)|(rw[if_neg (by decide +kernel)];exact⟨rfl,rfl⟩))
  (fun os started H enc _=>reopenTells_lifted os started H enc)
end Go.Proofs.YtghfhomfppbooaaGreat
