import Derived.Test.YtgoifbjgmgbihaaGreatXZ23Tab
set_option linter.unusedSimpArgs false
set_option linter.unusedVariables false
set_option maxRecDepth 20000
set_option maxHeartbeats 16000000
namespace Go.Proofs.YtgoifbjgmgbihaaGreat
open Go.Vi Go.Shelf
def QM:Ren:=⟨fun n=>if n=22 then 82 else if n=29 then 97 else 98,fun n=>if n=3 then 3 else if n=24 then 46 else if n=9 then 34 else if n=4 then 4 else 0,id⟩
theorem OD:InsLay Tryz.prog QM 1 24 where
 mixed:=by kernel_rfl
 f22:=⟨ "slices.Insert[[][]wagoner/api.Rec,[]wagoner/api.Rec]",by kernel_rfl⟩
 ov:=fun x y w=>by kernel_rfl
 t0:=by kernel_rfl
 a0:=fun w=>by kernel_rfl
 z0:=fun w=>by kernel_rfl
 v0:=fun w=>by kernel_rfl
 t3:=by kernel_rfl
 a3:=fun w=>by kernel_rfl
 z3:=fun w=>by kernel_rfl
 v3:=fun w=>by kernel_rfl
 t4:=by kernel_rfl
 a4:=fun w=>by kernel_rfl
 z4:=fun w=>by kernel_rfl
 v4:=fun w=>by kernel_rfl
 t24:=by kernel_rfl
 a24:=fun w=>by kernel_rfl
 z24:=fun w=>by kernel_rfl
 v24:=fun w=>by kernel_rfl
 j9:=by kernel_rfl
 kp:=by decide
 z9:=fun w=>by kernel_rfl
def PW:Ren:=⟨fun n=>if n=22 then 151 else if n=29 then 177 else 178,fun n=>if n=3 then 3 else if n=24 then 36 else if n=9 then 104 else if n=4 then 4 else 0,id⟩
theorem Nu:InsLay Tryz.prog PW 3 40 where
 mixed:=by kernel_rfl
 f22:=⟨ "slices.Insert[[]wagoner/api.File,wagoner/api.File]",by kernel_rfl⟩
 ov:=fun x y w=>by kernel_rfl
 t0:=by kernel_rfl
 a0:=fun w=>by kernel_rfl
 z0:=fun w=>by kernel_rfl
 v0:=fun w=>by kernel_rfl
 t3:=by kernel_rfl
 a3:=fun w=>by kernel_rfl
 z3:=fun w=>by kernel_rfl
 v3:=fun w=>by kernel_rfl
 t4:=by kernel_rfl
 a4:=fun w=>by kernel_rfl
 z4:=fun w=>by kernel_rfl
 v4:=fun w=>by kernel_rfl
 t24:=by kernel_rfl
 a24:=fun w=>by kernel_rfl
 z24:=fun w=>by kernel_rfl
 v24:=fun w=>by kernel_rfl
 j9:=by kernel_rfl
 kp:=by decide
 z9:=fun w=>by kernel_rfl
def Qs:Ren:=⟨fun n=>180,fun n=>if n=3 then 3 else if n=24 then 36 else if n=9 then 104 else if n=4 then 4 else 0,id⟩
theorem LV:DelLay Tryz.prog Qs 3 [.s [],.s [],.i .i64 0] where
 mixed:=by kernel_rfl
 f24:=⟨ "slices.Delete[[]wagoner/api.File,wagoner/api.File]",by kernel_rfl⟩
 t0:=by kernel_rfl
 a0:=fun w=>by kernel_rfl
 z0:=fun w=>by kernel_rfl
 v0:=fun w=>by kernel_rfl
 t3:=by kernel_rfl
 a3:=fun w=>by kernel_rfl
 z3:=fun w=>by kernel_rfl
 v3:=fun w=>by kernel_rfl
 t4:=by kernel_rfl
 a4:=fun w=>by kernel_rfl
 z4:=fun w=>by kernel_rfl
 v4:=fun w=>by kernel_rfl
 t24:=by kernel_rfl
 a24:=fun w=>by kernel_rfl
 z24:=fun w=>by kernel_rfl
 v24:=fun w=>by kernel_rfl
 j9:=by kernel_rfl
 kp:=by decide
 z9:=fun w=>by kernel_rfl
def Pl:Ren:=⟨fun n=>191,fun n=>if n=3 then 3 else if n=24 then 69 else if n=9 then 107 else if n=4 then 4 else 0,id⟩
theorem No:DelLay Tryz.prog Pl 2 [.i .u8 0,.s []] where
 mixed:=by kernel_rfl
 f24:=⟨ "slices.Delete[[]wagoner/api.Pair,wagoner/api.Pair]",by kernel_rfl⟩
 t0:=by kernel_rfl
 a0:=fun w=>by kernel_rfl
 z0:=fun w=>by kernel_rfl
 v0:=fun w=>by kernel_rfl
 t3:=by kernel_rfl
 a3:=fun w=>by kernel_rfl
 z3:=fun w=>by kernel_rfl
 v3:=fun w=>by kernel_rfl
 t4:=by kernel_rfl
 a4:=fun w=>by kernel_rfl
 z4:=fun w=>by kernel_rfl
 v4:=fun w=>by kernel_rfl
 t24:=by kernel_rfl
 a24:=fun w=>by kernel_rfl
 z24:=fun w=>by kernel_rfl
 v24:=fun w=>by kernel_rfl
 j9:=by kernel_rfl
 kp:=by decide
 z9:=fun w=>by kernel_rfl
def OZ:Ren:=⟨fun n=>if n=22 then 192 else if n=29 then 198 else 199,fun n=>if n=3 then 3 else if n=24 then 69 else if n=9 then 107 else if n=4 then 4 else 0,id⟩
theorem Nf:InsLay Tryz.prog OZ 2 24 where
 mixed:=by kernel_rfl
 f22:=⟨ "slices.Insert[[]wagoner/api.Pair,wagoner/api.Pair]",by kernel_rfl⟩
 ov:=fun x y w=>by kernel_rfl
 t0:=by kernel_rfl
 a0:=fun w=>by kernel_rfl
 z0:=fun w=>by kernel_rfl
 v0:=fun w=>by kernel_rfl
 t3:=by kernel_rfl
 a3:=fun w=>by kernel_rfl
 z3:=fun w=>by kernel_rfl
 v3:=fun w=>by kernel_rfl
 t4:=by kernel_rfl
 a4:=fun w=>by kernel_rfl
 z4:=fun w=>by kernel_rfl
 v4:=fun w=>by kernel_rfl
 t24:=by kernel_rfl
 a24:=fun w=>by kernel_rfl
 z24:=fun w=>by kernel_rfl
 v24:=fun w=>by kernel_rfl
 j9:=by kernel_rfl
 kp:=by decide
 z9:=fun w=>by kernel_rfl
theorem OC:lib.Ok Tryz.prog where
 clones:=by
  intro f sz bytes h;rcases List.mem_cons.1 h with h|h
  ·cases h;exact⟨by decide,⟨[],[],true,false⟩,by kernel_rfl⟩
  rcases List.mem_cons.1 h with h|h
  ·cases h;exact⟨by decide,⟨[],[],true,false⟩,by kernel_rfl⟩
  rcases List.mem_cons.1 h with h|h
  ·cases h;exact⟨by decide,⟨[],[],true,false⟩,by kernel_rfl⟩
  cases h
 inss:=by
  intro f k bytes h;rcases List.mem_cons.1 h with h|h
  ·cases h;exact⟨by kernel_rfl,by decide,_,rfl,OD⟩
  rcases List.mem_cons.1 h with h|h
  ·cases h;exact⟨by kernel_rfl,by decide,_,rfl,Nu⟩
  rcases List.mem_cons.1 h with h|h
  ·cases h;exact⟨by kernel_rfl,by decide,_,rfl,Nf⟩
  cases h
 dels:=by
  intro f k h;rcases List.mem_cons.1 h with h|h
  ·cases h;exact⟨by kernel_rfl,_,_,rfl,LV⟩
  rcases List.mem_cons.1 h with h|h
  ·cases h;exact⟨by kernel_rfl,_,_,rfl,No⟩
  cases h
end Go.Proofs.YtgoifbjgmgbihaaGreat
