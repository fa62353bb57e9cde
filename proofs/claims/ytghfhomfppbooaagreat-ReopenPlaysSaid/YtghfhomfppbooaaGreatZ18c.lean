/- ReopenPlays answers true for every input;no conditions beyond the row's own. -/
import Derived.Test.YtghfhomfppbooaaGreatXZ14TabLib
import Derived.Test.YtghfhomfppbooaaGreatT08
import Derived.Test.YtghfhomfppbooaaGreatRows
import Derived.ProofKit
set_option linter.unusedSimpArgs false
set_option linter.unusedVariables false
set_option maxRecDepth 20000
set_option maxHeartbeats 16000000
namespace Go.Proofs.YtghfhomfppbooaaGreat
open Go.Vi
open Go.ChangeShapes Go.WideShapes Go.ChangeAt Go.RowKit
theorem Tryz.own:ownKnob Tryz.prog.godebug=none:=by kernel_rfl
theorem Tryz.laidOut:laidOutB Tryz.prog=true:=by kernel_rfl
theorem M2:Vi.Good Tryz.prog call:=qr (fun φ hg=>Au (by kernel_rfl) hg) (pt _ _) (yj (fun φ hg=>Au (by kernel_rfl) hg) lib IR)
theorem reopenPlays_law (xs:List V) (h:qk Tryz.prog 6 Tryz.f4.params.toList xs):call 4 xs []=some (.one (.d (.b true)),[]):=reopenPlays_pure xs (AE (al:=[(true,[.i .u8,.l [.i .i64,.i .i64,.i .i64,.s],.l [.i .i64],.i .u8,.i .u16,.i .u8,.i .u8,.b])]) (by kernel_rfl) h)
set_option maxRecDepth 100000 in
theorem reopenPlays_lifted (os:Os) (started:os.Started) (H:Type) (enc:TypeId × Value->H) :
  ReturnsInHanded {} Tryz.checked os 4 .any (Rows.reopenPlaysSpec.pre6 enc Tryz.prog Tryz.f4 Rows.reopenPlaysRow.domain false) (Rows.reopenPlaysSpec.post enc Tryz.prog Tryz.f4 false true false false):=by
 refine returnsInHanded_of_change (C:=Tryz.checked) Tryz.own started (by kernel_rfl) Tryz.func4
  (ChangeSpec.witness6 (enc:=enc) (C:=Tryz.checked) false ⟨#[],#[.agg #[.int .u8 0,.slice none 0 0,.slice none 0 0,.int .u8 0,.int .u16 0,.int .u8 0,.int .u8 0,.bool false]],[]⟩ 8 (by kernel_rfl) (by kernel_rfl) (by kernel_rfl) (by kernel_rfl)) ?_
 intro W base args ds gs before hval hW hcnd _;exact Fg M2 Tryz.laidOut (n:=6) (by kernel_rfl) (by kernel_rfl) (tb:=4) (by kernel_rfl) (by kernel_rfl) rfl (fun ds h=>by
  match ds,h with
  | [d1],_=>rfl) reopenPlays_law hval hW
theorem reopenPlays_holds:Rows.ReopenPlaysSaid :=
 OpenClaim.holds_of_wide 4 Tryz.f4 rfl rfl rfl rfl rfl rfl rfl ⟨rfl,rfl,rfl,rfl,rfl⟩ rfl rfl rfl rfl rfl (by kernel_rfl) Tryz.func4 (by kernel_rfl)
  (of_decide_eq_true (by kernel_rfl)) (by unfold Func.isWrapper;first|(rw[if_pos (by decide +kernel)];kernel_rfl)|(rw[if_neg (by decide +kernel)];exact⟨rfl,rfl⟩))
  (fun os started H enc _=>reopenPlays_lifted os started H enc)
end Go.Proofs.YtghfhomfppbooaaGreat
