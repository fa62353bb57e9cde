/- ReopenTwice answers true for every input;no conditions beyond the row's own. -/
import Derived.Test.YtghfhomfppbooaaGreatXZ14TabLib
import Derived.Test.YtghfhomfppbooaaGreatT09
import Derived.Test.YtghfhomfppbooaaGreatRows
import Derived.ProofKit
set_option linter.unusedSimpArgs false
set_option linter.unusedVariables false
namespace Go.Proofs.YtghfhomfppbooaaGreat
open Go.Vi
open Go.ChangeShapes Go.WideShapes Go.ChangeAt Go.RowKit
theorem Tryz.own:ownKnob Tryz.prog.godebug=none:=by kernel_rfl
theorem Tryz.laidOut:laidOutB Tryz.prog=true:=by kernel_rfl
theorem N6:Vi.Good Tryz.prog call:=tI (fun φ hg=>Bq (by kernel_rfl) hg) (p9 _ _) (Af (fun φ hg=>Bq (by kernel_rfl) hg) lib KH)
theorem reopenTwice_law (xs:List V) (h:tF Tryz.prog 6 Tryz.f6.params.toList xs):call 6 xs []=some (.one (.d (.b true)),[]):=reopenTwice_pure xs (Ce (al:=[(true,[.i .u8,.l [.i .i64,.i .i64,.i .i64,.s],.l [.i .i64],.i .u8,.i .u16,.i .u8,.i .u8,.b])]) (by kernel_rfl) h)
set_option maxRecDepth 100000 in
theorem reopenTwice_lifted (os:Os) (started:os.Started) (H:Type) (enc:TypeId × Value->H) :
  ReturnsInHanded {} Tryz.checked os 6 .any (Rows.reopenTwiceSpec.pre6 enc Tryz.prog Tryz.f6 Rows.reopenTwiceRow.domain false) (Rows.reopenTwiceSpec.post enc Tryz.prog Tryz.f6 false true false false):=by
 refine returnsInHanded_of_change (C:=Tryz.checked) Tryz.own started (by kernel_rfl) Tryz.func6
  (ChangeSpec.witness6 (enc:=enc) (C:=Tryz.checked) false ⟨#[],#[.agg #[.int .u8 0,.slice none 0 0,.slice none 0 0,.int .u8 0,.int .u16 0,.int .u8 0,.int .u8 0,.bool false]],[]⟩ 8 (by kernel_rfl) (by kernel_rfl) (by kernel_rfl) (by kernel_rfl)) ?_
 intro W base args ds gs before hval hW hcnd _;exact Hg N6 Tryz.laidOut (n:=6) (by kernel_rfl) (by kernel_rfl) (tb:=4) (by kernel_rfl) (by kernel_rfl) rfl (fun ds h=>by
  match ds,h with
  | [d1],_=>rfl) reopenTwice_law hval hW
theorem reopenTwice_holds:Rows.ReopenTwiceSaid :=
 OpenClaim.holds_of_wide 6 Tryz.f6 rfl rfl rfl rfl rfl rfl rfl ⟨rfl,rfl,rfl,rfl,rfl⟩ rfl rfl rfl rfl rfl (by kernel_rfl) Tryz.func6 (by kernel_rfl)
  (of_decide_eq_true (by kernel_rfl)) (by unfold Func.isWrapper;first|(rw[if_pos (by decide +kernel)];kernel_rfl)|(rw[if_neg (by decide +kernel)];exact⟨rfl,rfl⟩))
  (fun os started H enc _=>reopenTwice_lifted os started H enc)
end Go.Proofs.YtghfhomfppbooaaGreat
