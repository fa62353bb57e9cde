/- FollowerCrash answers true for every input;no conditions beyond the row's own. -/
import Derived.Test.YtgoifbjgmgbihaaGreatXZ23TabLib
import Derived.Test.YtgoifbjgmgbihaaGreatT11
import Derived.Test.YtgoifbjgmgbihaaGreatRows
import Derived.ProofKit
set_option linter.unusedSimpArgs false
set_option linter.unusedVariables false
set_option maxRecDepth 20000
set_option maxHeartbeats 16000000
namespace Go.Proofs.YtgoifbjgmgbihaaGreat
open Go.Vi
open Go.ChangeShapes Go.WideShapes Go.ChangeAt Go.RowKit
theorem Tryz.own:ownKnob Tryz.prog.godebug=none:=by kernel_rfl
theorem Tryz.laidOut:laidOutB Tryz.prog=true:=by kernel_rfl
theorem TI:Vi.Good Tryz.prog call:=u6 (fun φ hg=>Ey (by kernel_rfl) hg) (sB _ _) (CJ (fun φ hg=>Ey (by kernel_rfl) hg) lib OC)
theorem followerCrash_law (xs:List V) (h:uh Tryz.prog 8 Tryz.f4.params.toList xs):call 4 xs []=some (.one (.d (.b true)),[]):=followerCrash_pure xs (Ep (al:=[(true,[.i .u8,.i .u8,.i .u8,.i .u8,.i .u8,.i .u8,.i .u8,.i .u8,.i .u8,.i .u8,.i .u8,.i .u8,.l [.s],.l [.i .u8,.i .u8,.i .u8,.i .u8,.i .i64,.i .i64,.i .i64,.i .i64,.i .i64,.i .i64,.i .i64,.i .i64,.i .i64,.i .i64,.i .i64,.i .i64,.i .u32,.s,.l [.i .i64,.i .i64,.s]]]),(false,[.i .u8]),(true,[.i .u8,.i .u8,.i .u8,.i .u8,.i .i64,.i .i64,.i .i64,.i .i64,.i .i64,.i .i64,.i .i64,.i .i64,.i .i64,.i .i64,.i .i64,.i .i64,.i .u32,.s,.l [.i .i64,.i .i64,.s]])]) (by kernel_rfl) h)
set_option maxRecDepth 100000 in
theorem followerCrash_lifted (os:Os) (started:os.Started) (H:Type) (enc:TypeId × Value->H) :
  ReturnsInHanded {} Tryz.checked os 4 .any (Rows.followerCrashSpec.pre6 enc Tryz.prog Tryz.f4 Rows.followerCrashRow.domain false) (Rows.followerCrashSpec.post enc Tryz.prog Tryz.f4 false true false false):=by
 refine returnsInHanded_of_change (C:=Tryz.checked) Tryz.own started (by kernel_rfl) Tryz.func4
  (ChangeSpec.witness6 (enc:=enc) (C:=Tryz.checked) false ⟨#[],#[.agg #[.int .u8 0,.int .u8 0,.int .u8 0,.int .u8 0,.int .u8 0,.int .u8 0,.int .u8 0,.int .u8 0,.int .u8 0,.int .u8 0,.int .u8 0,.int .u8 0,.slice none 0 0,.slice none 0 0],.int .u8 0,.agg #[.int .u8 0,.int .u8 0,.int .u8 0,.int .u8 0,.int .i64 0,.int .i64 0,.int .i64 0,.int .i64 0,.int .i64 0,.int .i64 0,.int .i64 0,.int .i64 0,.int .i64 0,.int .i64 0,.int .i64 0,.int .i64 0,.int .u32 0,.string ⟨#[]⟩,.slice none 0 0]],[]⟩ 8 (by kernel_rfl) (by kernel_rfl) (by kernel_rfl) (by kernel_rfl)) ?_
 intro W base args ds gs before hval hW hcnd _;exact I8 TI Tryz.laidOut (n:=8) (by kernel_rfl) (by kernel_rfl) (tb:=4) (by kernel_rfl) (by kernel_rfl) rfl (fun ds h=>by
  match ds,h with
  | [d1,d2,d3],_=>rfl) followerCrash_law hval hW
theorem followerCrash_holds:Rows.FollowerCrashSaid :=
 OpenClaim.holds_of_wide 4 Tryz.f4 rfl rfl rfl rfl rfl rfl rfl ⟨rfl,rfl,rfl,rfl,rfl⟩ rfl rfl rfl rfl rfl (by kernel_rfl) Tryz.func4 (by kernel_rfl)
  (of_decide_eq_true (by kernel_rfl)) (by unfold Func.isWrapper;first|(rw[if_pos (by decide +kernel)];kernel_rfl)|(rw[if_neg (by decide +kernel)];exact⟨rfl,rfl⟩))
  (fun os started H enc _=>followerCrash_lifted os started H enc)
end Go.Proofs.YtgoifbjgmgbihaaGreat
