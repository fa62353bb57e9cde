/- FollowerCuts answers true for every input;no conditions beyond the row's own. -/
import Derived.Test.YtgoifbjgmgbihaaGreatXZ23TabLib
import Derived.Test.YtgoifbjgmgbihaaGreatT09
import Derived.Test.YtgoifbjgmgbihaaGreatRows
import Derived.ProofKit
set_option linter.unusedSimpArgs false
set_option linter.unusedVariables false
set_option maxRecDepth 20000
set_option maxHeartbeats 16000000
namespace Go.Proofs.YtgoifbjgmgbihaaGreat
open Go.Vi
open Go.ChangeShapes Go.WideShapes Go.ChangeAt Go.RowKit
theorem Tryz.own:ownKnob Tryz.prog.godebug=none:=by kernel_rfl
theorem Tryz.laidOut:laidOutB Tryz.prog=true:=by kernel_rfl
theorem QN:Vi.Good Tryz.prog call:=sx (fun φ hg=>Bj (by kernel_rfl) hg) (qh _ _) (Bd (fun φ hg=>Bj (by kernel_rfl) hg) lib LW)
theorem followerCuts_law (xs:List V) (h:sa Tryz.prog 8 Tryz.f3.params.toList xs):call 3 xs []=some (.one (.d (.b true)),[]):=followerCuts_pure xs (Cg (al:=[(true,[.i .u8,.i .u8,.i .u8,.i .u8,.i .u8,.i .u8,.i .u8,.i .u8,.i .u8,.i .u8,.i .u8,.i .u8,.l [.s],.l [.i .u8,.i .u8,.i .u8,.i .u8,.i .i64,.i .i64,.i .i64,.i .i64,.i .i64,.i .i64,.i .i64,.i .i64,.i .i64,.i .i64,.i .i64,.i .i64,.i .u32,.s,.l [.i .i64,.i .i64,.s]]]),(false,[.l [.i .u8]])]) (by kernel_rfl) h)
set_option maxRecDepth 100000 in
theorem followerCuts_lifted (os:Os) (started:os.Started) (H:Type) (enc:TypeId × Value->H) :
  ReturnsInHanded {} Tryz.checked os 3 .any (Rows.followerCutsSpec.pre6 enc Tryz.prog Tryz.f3 Rows.followerCutsRow.domain false) (Rows.followerCutsSpec.post enc Tryz.prog Tryz.f3 false true false false):=by
 refine returnsInHanded_of_change (C:=Tryz.checked) Tryz.own started (by kernel_rfl) Tryz.func3
  (ChangeSpec.witness6 (enc:=enc) (C:=Tryz.checked) false ⟨#[],#[.agg #[.int .u8 0,.int .u8 0,.int .u8 0,.int .u8 0,.int .u8 0,.int .u8 0,.int .u8 0,.int .u8 0,.int .u8 0,.int .u8 0,.int .u8 0,.int .u8 0,.slice none 0 0,.slice none 0 0],.slice none 0 0],[]⟩ 8 (by kernel_rfl) (by kernel_rfl) (by kernel_rfl) (by kernel_rfl)) ?_
 intro W base args ds gs before hval hW hcnd _;exact Hl QN Tryz.laidOut (n:=8) (by kernel_rfl) (by kernel_rfl) (tb:=4) (by kernel_rfl) (by kernel_rfl) rfl (fun ds h=>by
  match ds,h with
  | [d1,d2],_=>rfl) followerCuts_law hval hW
theorem followerCuts_holds:Rows.FollowerCutsSaid :=
 OpenClaim.holds_of_wide 3 Tryz.f3 rfl rfl rfl rfl rfl rfl rfl ⟨rfl,rfl,rfl,rfl,rfl⟩ rfl rfl rfl rfl rfl (by kernel_rfl) Tryz.func3 (by kernel_rfl)
  (of_decide_eq_true (by kernel_rfl)) (by unfold Func.isWrapper;first|(rw[if_pos (by decide +kernel)];kernel_rfl)|(rw[if_neg (by decide +kernel)];exact⟨rfl,rfl⟩))
  (fun os started H enc _=>followerCuts_lifted os started H enc)
end Go.Proofs.YtgoifbjgmgbihaaGreat
