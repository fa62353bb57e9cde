import Derived.Test.YtghfhomfppbooaaGreatXZ14Tab
set_option linter.unusedSimpArgs false
set_option linter.unusedVariables false
set_option maxRecDepth 20000
set_option maxHeartbeats 16000000
namespace Go.Proofs.YtghfhomfppbooaaGreat
open Go.Vi Go.Shelf
def KQ:Ren:=⟨fun n=>88,fun n=>if n=3 then 3 else if n=24 then 22 else if n=9 then 45 else if n=4 then 4 else 0,id⟩
theorem JD:DelLay Tryz.prog KQ 3 [.s [],.s [],.i .i64 0] where
 mixed:=by kernel_rfl
 f24:=⟨ "slices.Delete[[]wagoner/api.File,wagoner/api.File]",by kernel_rfl⟩
 t0:=by kernel_rfl
 a0:=fun w=>by kernel_rfl
 z0:=fun w=>by kernel_rfl
 v0:=fun w=>by kernel_rfl
 t3:=by kernel_rfl
 a3:=fun w=>by kernel_rfl
 z3:=fun w=>by kernel_rfl
 v3:=fun w=>by kernel_rfl
 t4:=by kernel_rfl
 a4:=fun w=>by kernel_rfl
 z4:=fun w=>by kernel_rfl
 v4:=fun w=>by kernel_rfl
 t24:=by kernel_rfl
 a24:=fun w=>by kernel_rfl
 z24:=fun w=>by kernel_rfl
 v24:=fun w=>by kernel_rfl
 j9:=by kernel_rfl
 kp:=by decide
 z9:=fun w=>by kernel_rfl
def JT:Ren:=⟨fun n=>if n=22 then 123 else if n=29 then 140 else 141,fun n=>if n=3 then 3 else if n=24 then 22 else if n=9 then 45 else if n=4 then 4 else 0,id⟩
theorem FX:InsLay Tryz.prog JT 3 40 where
 mixed:=by kernel_rfl
 f22:=⟨ "slices.Insert[[]wagoner/api.File,wagoner/api.File]",by kernel_rfl⟩
 ov:=fun x y w=>by kernel_rfl
 t0:=by kernel_rfl
 a0:=fun w=>by kernel_rfl
 z0:=fun w=>by kernel_rfl
 v0:=fun w=>by kernel_rfl
 t3:=by kernel_rfl
 a3:=fun w=>by kernel_rfl
 z3:=fun w=>by kernel_rfl
 v3:=fun w=>by kernel_rfl
 t4:=by kernel_rfl
 a4:=fun w=>by kernel_rfl
 z4:=fun w=>by kernel_rfl
 v4:=fun w=>by kernel_rfl
 t24:=by kernel_rfl
 a24:=fun w=>by kernel_rfl
 z24:=fun w=>by kernel_rfl
 v24:=fun w=>by kernel_rfl
 j9:=by kernel_rfl
 kp:=by decide
 z9:=fun w=>by kernel_rfl
theorem IR:lib.Ok Tryz.prog where
 clones:=by
  intro f sz bytes h;rcases List.mem_cons.1 h with h|h
  ·cases h;exact⟨by decide,⟨[],[],true,false⟩,by kernel_rfl⟩
  cases h
 inss:=by
  intro f k bytes h;rcases List.mem_cons.1 h with h|h
  ·cases h;exact⟨by kernel_rfl,by decide,_,rfl,FX⟩
  cases h
 dels:=by
  intro f k h;rcases List.mem_cons.1 h with h|h
  ·cases h;exact⟨by kernel_rfl,_,_,rfl,JD⟩
  cases h
end Go.Proofs.YtghfhomfppbooaaGreat
