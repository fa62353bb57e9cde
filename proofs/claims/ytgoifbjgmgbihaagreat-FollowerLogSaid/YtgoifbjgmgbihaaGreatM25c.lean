/- FollowerLog answers true for every input;no conditions beyond the row's own. -/
import Derived.Test.YtgoifbjgmgbihaaGreatXZ23TabLib
import Derived.Test.YtgoifbjgmgbihaaGreatT09
import Derived.Test.YtgoifbjgmgbihaaGreatRows
import Derived.ProofKit
set_option linter.unusedSimpArgs false
set_option linter.unusedVariables false
set_option maxRecDepth 20000
set_option maxHeartbeats 16000000
namespace Go.Proofs.YtgoifbjgmgbihaaGreat
open Go.Vi
open Go.ChangeShapes Go.WideShapes Go.ChangeAt Go.RowKit
theorem Tryz.own:ownKnob Tryz.prog.godebug=none:=by kernel_rfl
theorem Tryz.laidOut:laidOutB Tryz.prog=true:=by kernel_rfl
theorem Rv:Vi.Good Tryz.prog call:=sG (fun φ hg=>Cj (by kernel_rfl) hg) (qU _ _) (Aj (fun φ hg=>Cj (by kernel_rfl) hg) lib Nr)
theorem followerLog_law (xs:List V) (h:tY Tryz.prog 8 Tryz.f5.params.toList xs):call 5 xs []=some (.one (.d (.b true)),[]):=followerLog_pure xs (CX (al:=[(true,[.i .u8,.i .u8,.i .u8,.i .u8,.i .u8,.i .u8,.i .u8,.i .u8,.i .u8,.i .u8,.i .u8,.i .u8,.l [.s],.l [.i .u8,.i .u8,.i .u8,.i .u8,.i .i64,.i .i64,.i .i64,.i .i64,.i .i64,.i .i64,.i .i64,.i .i64,.i .i64,.i .i64,.i .i64,.i .i64,.i .u32,.s,.l [.i .i64,.i .i64,.s]]])]) (by kernel_rfl) h)
set_option maxRecDepth 100000 in
theorem followerLog_lifted (os:Os) (started:os.Started) (H:Type) (enc:TypeId × Value->H) :
  ReturnsInHanded {} Tryz.checked os 5 .any (Rows.followerLogSpec.pre6 enc Tryz.prog Tryz.f5 Rows.followerLogRow.domain false) (Rows.followerLogSpec.post enc Tryz.prog Tryz.f5 false true false false):=by
 refine returnsInHanded_of_change (C:=Tryz.checked) Tryz.own started (by kernel_rfl) Tryz.func5
  (ChangeSpec.witness6 (enc:=enc) (C:=Tryz.checked) false ⟨#[],#[.agg #[.int .u8 0,.int .u8 0,.int .u8 0,.int .u8 0,.int .u8 0,.int .u8 0,.int .u8 0,.int .u8 0,.int .u8 0,.int .u8 0,.int .u8 0,.int .u8 0,.slice none 0 0,.slice none 0 0]],[]⟩ 8 (by kernel_rfl) (by kernel_rfl) (by kernel_rfl) (by kernel_rfl)) ?_
 intro W base args ds gs before hval hW hcnd _;exact Fo Rv Tryz.laidOut (n:=8) (by kernel_rfl) (by kernel_rfl) (tb:=4) (by kernel_rfl) (by kernel_rfl) rfl (fun ds h=>by
  match ds,h with
  | [d1],_=>rfl) followerLog_law hval hW
theorem followerLog_holds:Rows.FollowerLogSaid :=
 OpenClaim.holds_of_wide 5 Tryz.f5 rfl rfl rfl rfl rfl rfl rfl ⟨rfl,rfl,rfl,rfl,rfl⟩ rfl rfl rfl rfl rfl (by kernel_rfl) Tryz.func5 (by kernel_rfl)
  (of_decide_eq_true (by kernel_rfl)) (by unfold Func.isWrapper;first|(rw[if_pos (by decide +kernel)];kernel_rfl)|(rw[if_neg (by decide +kernel)];exact⟨rfl,rfl⟩))
  (fun os started H enc _=>followerLog_lifted os started H enc)
end Go.Proofs.YtgoifbjgmgbihaaGreat
